/- The program's queue and the document's side by side; the walk of looks. -/
import Derived.Test.YtgkbcgmcpbbneaaRk
namespace Go.Proofs.Ytgkbcgmcpbbneaa.Q
open Go Go.RowKit Go.Maps Go.Proofs.YtgkbcgmcpbbneaaW.PrintWords Go.Proofs.YtgkbcgmcpbbneaaW.PrintLast Go.Proofs.YtgkbcgmcpbbneaaW.PrintMore
set_option maxRecDepth 100000
set_option linter.unusedVariables false
set_option linter.unusedSimpArgs false
attribute [local go_sem high] eqA30
/-- The program's queue (q) and the document's (db) in memory, apart from each other; all their blocks are in F. -/
def Two (F : Nat → Prop) (w : World) (q db : Nat) (L1 L2 : List Wt) (s1 s2 : List S46) (m : Nat) : Prop :=
  ∃ Fq Fd, QS w Fq q L1 s1 m ∧ DQ w Fd db L2 s2 ∧ (∀ k, Fq k → F k ∧ k < w.heap.size ∧ ¬ Fd k) ∧ ∀ k, Fd k → F k ∧ k < w.heap.size
section
variable {F F2 : Nat → Prop} {w w' : World} {q db m : Nat} {L L1 L2 : List Wt} {s s1 s2 : List S46}
theorem Two.bound (h : Two F w q db L1 L2 s1 s2 m) : Two (fun k => F k ∧ k < w.heap.size) w q db L1 L2 s1 s2 m := by
  obtain ⟨Fq, Fd, h1, h2, h3, h4⟩ := h
  exact ⟨Fq, Fd, h1, h2, fun k hk => ⟨⟨(h3 k hk).1, (h3 k hk).2.1⟩, (h3 k hk).2⟩, fun k hk => ⟨h4 k hk, (h4 k hk).2⟩⟩
theorem Two.mono (h : Two F w q db L1 L2 s1 s2 m) (hF : ∀ k, F k → k < w.heap.size → F2 k) : Two F2 w q db L1 L2 s1 s2 m := by
  obtain ⟨Fq, Fd, h1, h2, h3, h4⟩ := h
  exact ⟨Fq, Fd, h1, h2, fun k hk => ⟨hF k (h3 k hk).1 (h3 k hk).2.1, (h3 k hk).2⟩, fun k hk => ⟨hF k (h4 k hk).1 (h4 k hk).2, (h4 k hk).2⟩⟩
theorem Two.below (h : Two F w q db L1 L2 s1 s2 m) (hb : Below w.heap.size w w') : Two F w' q db L1 L2 s1 s2 m := by
  obtain ⟨Fq, Fd, h1, h2, h3, h4⟩ := h
  exact ⟨Fq, Fd, h1.below hb, h2.below hb, fun k hk => ⟨(h3 k hk).1, Nat.lt_of_lt_of_le (h3 k hk).2.1 hb.size, (h3 k hk).2.2⟩, fun k hk => ⟨(h4 k hk).1, Nat.lt_of_lt_of_le (h4 k hk).2 hb.size⟩⟩
theorem Two.move (h : Two F w q db L1 L2 s1 s2 m) (hs : w.heap.size ≤ w'.heap.size) (hm : ∀ k, F k → k < w.heap.size → w'.heap[k]? = w.heap[k]?) : Two F w' q db L1 L2 s1 s2 m := by
  obtain ⟨Fq, Fd, h1, h2, h3, h4⟩ := h
  exact ⟨Fq, Fd, h1.move (fun k hk hl => hm k (h3 k hk).1 hl), h2.move (fun k hk hl => hm k (h4 k hk).1 hl), fun k hk => ⟨(h3 k hk).1, Nat.lt_of_lt_of_le (h3 k hk).2.1 hs, (h3 k hk).2.2⟩, fun k hk => ⟨(h4 k hk).1, Nat.lt_of_lt_of_le (h4 k hk).2 hs⟩⟩
theorem Two.grow (h : Two F w q db L1 L2 s1 s2 m) {m2 : Nat} (hm : m ≤ m2) : Two F w q db L1 L2 s1 s2 m2 := by
  obtain ⟨Fq, Fd, h1, h2, h3, h4⟩ := h
  exact ⟨Fq, Fd, h1.grow hm, h2, h3, h4⟩
theorem Two.uniq (h : Two F w q db L1 L2 s1 s2 m) : Uniq L1 := by obtain ⟨Fq, Fd, h1, h2, h3, h4⟩ := h; exact h1.uniq
theorem Two.dblk (h : Two F w q db L1 L2 s1 s2 m) : ∃ A c va, w.heap[db]? = some (.cells #[.slice A L2.length c, va] 41 (0, 0)) := by
  obtain ⟨Fq, Fd, h1, ⟨vl, va, h2⟩, h3, h4⟩ := h
  obtain ⟨A, c, rfl⟩ := Kd.R_slice h2.list
  exact ⟨A, c, va, h2.blk⟩
abbrev More (F : Nat → Prop) (w : World) : Nat → Prop := fun k => F k ∨ w.heap.size ≤ k
theorem Two.updQ {Fq Fd : Nat → Prop} {L3 : List Wt} {s3 : List S46} {m3 : Nat} (h2 : DQ w Fd db L2 s2) (h3 : ∀ k, Fq k → F k ∧ k < w.heap.size ∧ ¬ Fd k) (h4 : ∀ k, Fd k → F k ∧ k < w.heap.size) (hq : QS w' (fun k => Fq k ∨ w.heap.size ≤ k) q L3 s3 m3) (hk : Kp w w' Fq) : Two (More F w) w' q db L3 L2 s3 s2 m3 ∧ Kp w w' F :=
  ⟨⟨_, Fd, hq.bound, h2.move (fun k hf hl => hk.block k hl (fun h => (h3 k h).2.2 hf)), fun k hk' => ⟨hk'.1.imp (fun h => (h3 k h).1) id, hk'.2, fun hf => hk'.1.elim (fun h => (h3 k h).2.2 hf) (fun h => Nat.lt_irrefl _ (Nat.lt_of_lt_of_le (h4 k hf).2 h))⟩, fun k hf => ⟨.inl (h4 k hf).1, Nat.lt_of_lt_of_le (h4 k hf).2 hk.size⟩⟩, hk.mono (fun k h => (h3 k h).1)⟩
theorem Two.updD {Fq Fd : Nat → Prop} {L3 : List Wt} {s3 : List S46} (h1 : QS w Fq q L1 s1 m) (h3 : ∀ k, Fq k → F k ∧ k < w.heap.size ∧ ¬ Fd k) (h4 : ∀ k, Fd k → F k ∧ k < w.heap.size) (hd : DQ w' (fun k => Fd k ∨ w.heap.size ≤ k) db L3 s3) (hk : Kp w w' Fd) : Two (More F w) w' q db L1 L3 s1 s3 m ∧ Kp w w' F :=
  ⟨⟨Fq, _, h1.move (fun k hf hl => hk.block k hl (h3 k hf).2.2), hd.bound, fun k hf => ⟨.inl (h3 k hf).1, Nat.lt_of_lt_of_le (h3 k hf).2.1 hk.size, fun hd' => hd'.1.elim (h3 k hf).2.2 (fun h => Nat.lt_irrefl _ (Nat.lt_of_lt_of_le (h3 k hf).2.1 h))⟩, fun k hd' => ⟨hd'.1.imp (fun h => (h4 k h).1) id, hd'.2⟩⟩, hk.mono (fun k h => (h4 k h).1)⟩
abbrev cA (c : S30) : Value := .agg #[.int .i64 c.f0, .int .i64 c.f1, .int .i64 c.f2]
theorem Two.qput (h : Two F w q db L1 L2 s1 s2 m) (c : S30) (hc : Wc c) (n : Int) (hn : Wf n) (hl : L1.length ≤ 1000000) (hm : m ≤ 1000000) (hs : s1.length ≤ 1000000) :
    Calls Try.prog 17 #[.pointer (some ⟨q, 0, none⟩), cA c, .int .i64 n] w fun e w' => e = .returned (.tuple #[]) ∧ Two (More F w) w' q db (putL L1 c n) L2 s1 s2 (m + 1) ∧ Kp w w' F := by
  obtain ⟨Fq, Fd, h1, h2, h3, h4⟩ := h
  exact (h1.put c hc n hn hl hm hs).mono fun e w' ⟨he, hq, hk⟩ => ⟨he, Two.updQ h2 h3 h4 hq hk⟩
theorem Two.dput (h : Two F w q db L1 L2 s1 s2 m) (hu : Uniq L2) (c : S30) (n : Int) (hl : L2.length ≤ 1000000) :
    Calls Try.prog 18 #[.pointer (some ⟨db, 0, none⟩), cA c, .int .i64 n] w fun e w' => e = .returned (.tuple #[]) ∧ Two (More F w) w' q db L1 (putL L2 c n) s1 s2 m ∧ Kp w w' F := by
  obtain ⟨Fq, Fd, h1, h2, h3, h4⟩ := h
  exact (dput_calls w Fd db L2 s2 h2 hu c n hl).mono fun e w' ⟨he, hq, hk⟩ => ⟨he, Two.updD h1 h3 h4 hq hk⟩
theorem Two.qdrop (h : Two F w q db L1 L2 s1 s2 m) (c : S30) (hc : Wc c) :
    Calls Try.prog 13 #[.pointer (some ⟨q, 0, none⟩), cA c] w fun e w' => e = .returned (.bool (look L1 c).isSome) ∧ Two (More F w) w' q db (dropL L1 c) L2 s1 s2 m ∧ Kp w w' F := by
  obtain ⟨Fq, Fd, h1, h2, h3, h4⟩ := h
  exact (h1.drop c hc).mono fun e w' ⟨he, hq, hk⟩ => ⟨he, Two.updQ h2 h3 h4 (hq.mono (fun _ h => .inl h)) hk⟩
theorem Two.ddrop (h : Two F w q db L1 L2 s1 s2 m) (hu : Uniq L2) (c : S30) (hl : L2.length ≤ 1000000) :
    Calls Try.prog 19 #[.pointer (some ⟨db, 0, none⟩), cA c] w fun e w' => e = .returned (.bool (look L2 c).isSome) ∧ Two (More F w) w' q db L1 (dropL L2 c) s1 s2 m ∧ Kp w w' F := by
  obtain ⟨Fq, Fd, h1, h2, h3, h4⟩ := h
  exact (ddrop_calls w Fd db L2 s2 h2 hu (fun k hk => (h4 k hk).2) c hl).mono fun e w' ⟨he, hq, hk⟩ => ⟨he, Two.updD h1 h3 h4 hq hk⟩
theorem Two.qsee (h : Two F w q db L1 L2 s1 s2 m) (A : Option Addr) (n c : Nat) (xs : List S46) (hC : Kd.C k46 w A n xs) (hn : n ≤ 1000000) (hL : L1.length ≤ 1000000) :
    Calls Try.prog 20 #[.pointer (some ⟨q, 0, none⟩), .slice A n c] w fun e w' => e = .returned (.tuple #[]) ∧ Two (More F w) w' q db L1 L2 xs s2 L1.length ∧ Kp w w' F := by
  obtain ⟨Fq, Fd, h1, h2, h3, h4⟩ := h
  exact (h1.see A n c xs hC hn hL).mono fun e w' ⟨he, hq, hk⟩ => ⟨he, Two.updQ h2 h3 h4 hq hk⟩
theorem Two.dsee (h : Two F w q db L1 L2 s1 s2 m) (A : Option Addr) (n c : Nat) (xs : List S46) (hC : Kd.C k46 w A n xs) (hn : n ≤ 1000000) :
    Calls Try.prog 21 #[.pointer (some ⟨db, 0, none⟩), .slice A n c] w fun e w' => e = .returned (.tuple #[]) ∧ Two (More F w) w' q db L1 L2 s1 xs m ∧ Kp w w' F := by
  obtain ⟨Fq, Fd, h1, h2, h3, h4⟩ := h
  exact (dsee_calls w Fd db L2 s2 h2 A n c xs hC hn).mono fun e w' ⟨he, hq, hk⟩ => ⟨he, Two.updD h1 h3 h4 hq hk⟩
theorem Two.qfirst (h : Two F w q db L1 L2 s1 s2 m) (hm : m ≤ 1000000) (hs : s1.length ≤ 1000000) (c : S30) (b : Bool) (hc : headC (cellsOf L1 s1) = (c, b)) :
    Calls Try.prog 12 #[.pointer (some ⟨q, 0, none⟩)] w fun e w' => e = .returned (.tuple #[cA c, .bool b]) ∧ Two (More F w) w' q db L1 L2 s1 s2 m ∧ Kp w w' F := by
  obtain ⟨Fq, Fd, h1, h2, h3, h4⟩ := h
  exact (h1.first hm hs c b hc).mono fun e w' ⟨he, hq, hk⟩ => ⟨he, Two.updQ h2 h3 h4 (hq.mono (fun _ h => .inl h)) hk⟩
theorem Two.dfirst (h : Two F w q db L1 L2 s1 s2 m) (hu : Uniq L2) (hl : L2.length ≤ 1000000) (hs : s2.length ≤ 1000000) (c : S30) (b : Bool) (hc : headC (cellsOf L2 s2) = (c, b)) :
    Calls Try.prog 33 #[.pointer (some ⟨db, 0, none⟩)] w fun e w' => e = .returned (.tuple #[cA c, .bool b]) ∧ Below w.heap.size w w' := by
  obtain ⟨Fq, Fd, h1, h2, h3, h4⟩ := h
  exact dfirst_calls w Fd db L2 s2 h2 hu hl hs c b hc
theorem Two.qlevel (h : Two F w q db L1 L2 s1 s2 m) (c : S30) (hc : Wc c) :
    Calls Try.prog 23 #[.pointer (some ⟨q, 0, none⟩), cA c] w fun e w' => e = .returned (.tuple #[.int .i64 ((look L1 c).getD 0), .bool (look L1 c).isSome]) ∧ Below w.heap.size w w' := by
  obtain ⟨Fq, Fd, h1, h2, h3, h4⟩ := h
  exact h1.level c hc
theorem Two.dlevel (h : Two F w q db L1 L2 s1 s2 m) (hu : Uniq L2) (c : S30) (hl : L2.length ≤ 1000000) :
    Calls Try.prog 34 #[.pointer (some ⟨db, 0, none⟩), cA c] w fun e w' => e = .returned (.tuple #[.int .i64 ((look L2 c).getD 0), .bool (look L2 c).isSome]) ∧ Below w.heap.size w w' := by
  obtain ⟨Fq, Fd, h1, ⟨vl, va, h2⟩, h3, h4⟩ := h
  exact dlevel_calls w Fd db vl va L2 s2 h2 hu c hl
theorem Two.qlen (h : Two F w q db L1 L2 s1 s2 m) : Calls Try.prog 14 #[.pointer (some ⟨q, 0, none⟩)] w fun e w' => e = .returned (.int .i64 (L1.length : Int)) ∧ w = w' := by
  obtain ⟨Fq, Fd, h1, h2, h3, h4⟩ := h
  exact h1.len
theorem Two.qcells (h : Two F w q db L1 L2 s1 s2 m) (hl : L1.length ≤ 1000000) (hs : s1.length ≤ 1000000) : Calls Try.prog 11 #[.pointer (some ⟨q, 0, none⟩)] w (CellsPost w L1 s1) := by
  obtain ⟨Fq, Fd, h1, h2, h3, h4⟩ := h
  exact h1.cells hl hs
theorem Two.dcells (h : Two F w q db L1 L2 s1 s2 m) (hu : Uniq L2) (hl : L2.length ≤ 1000000) (hs : s2.length ≤ 1000000) : Calls Try.prog 35 #[.pointer (some ⟨db, 0, none⟩)] w (CellsPost w L2 s2) := by
  obtain ⟨Fq, Fd, h1, h2, h3, h4⟩ := h
  exact dcells_calls w Fd db L2 s2 h2 hu hl hs
end

set_option maxHeartbeats 8000000 in
theorem looks_calls (F : Nat → Prop) (w : World) (q db m : Nat) (L : List Wt) (s : List S46) (hT : Two F w q db L L s s m) (hl : L.length ≤ 1000000) (hm : m ≤ 1000000) (hs : s.length ≤ 1000000) (c : S30) (hc : Wc c) :
    Calls Try.prog 22 #[.pointer (some ⟨q, 0, none⟩), .pointer (some ⟨db, 0, none⟩), .agg #[.int .i64 c.f0, .int .i64 c.f1, .int .i64 c.f2]] w fun e w' => e = .returned (.bool true) ∧ Two (More F w) w' q db L L s s m ∧ Kp w w' F := by
  have hu30 := Try.underlying30
  have hu38 := Try.underlying38
  have hu39 := Try.underlying39
  have hu41 := Try.underlying41
  have hu27 := Try.underlying27
  have HT : Aside0 (Two (fun k => F k ∧ k < w.heap.size) w q db L L s s m) := ⟨hT.bound⟩
  have HK : Aside0 (Kp w w (fun k => F k ∧ k < w.heap.size)) := ⟨Kp.refl _ _⟩
  obtain ⟨⟨x, b⟩, hh⟩ : ∃ p, headC (cellsOf L s) = p := ⟨_, rfl⟩
  have HH := Aside0.mk hh
  obtain ⟨l, hcl⟩ : ∃ l, cellsOf L s = l := ⟨_, rfl⟩
  have HCL := Aside0.mk hcl
  obtain ⟨kc, hkc⟩ := cells_same l (by rw [← hcl, cellsOf_length]; exact Nat.le_trans hl (by decide))
  have HKC := Aside0.mk hkc
  obtain ⟨v1, hv1⟩ : ∃ v, (look L c).getD 0 = v := ⟨_, rfl⟩
  obtain ⟨v2, hv2⟩ : ∃ v, (look L c).isSome = v := ⟨_, rfl⟩
  have HV1 := Aside0.mk hv1
  have HV2 := Aside0.mk hv2
  obtain ⟨n, hn⟩ : ∃ n, L.length = n := ⟨_, rfl⟩
  have HNL := Aside0.mk hn
  have HU := Aside0.mk hT.uniq
  have HLL := Aside0.mk hl
  have HMM := Aside0.mk hm
  have HSS := Aside0.mk hs
  have HWC := Aside0.mk hc
  clear hh hcl hkc hv1 hv2 hn hl hm hs hc hT
  go_enter Try.func22, Try.ntmps22
  go_wp2_with (first | ((with_reducible refine gate_dst (N := 5) rfl ?_); refine box_event ?hg (N := 5) ?hd (cs := #[(.int .i64 c.f0), (.int .i64 c.f1), (.int .i64 c.f2)]) (t := 30) ?hr ?_; (case hd => rfl); (case hg => rfl); (case hr => first | (go_simp; done) | (go_simp; rfl)); intro gc hg w1 hbox hb; have GEgc : Aside0 (w.heap.size ≤ gc) := ⟨by rw [hg]; exact Nat.le_refl _⟩; have n0_ : Aside0 (Kp w w1 (fun k => F k ∧ k < w.heap.size)) := ⟨(Kp.then_ HK.out (Kp.of_below hb (fun _ => False)) (fun _ h => h.elim))⟩; have n1_ : Aside0 (Two (fun k => F k ∧ k < w.heap.size) w1 q db L L s s m) := ⟨(Two.below HT.out hb)⟩; clear HK HT; have HK := n0_; have HT := n1_; clear n0_ n1_; have BKgc : Aside0 (w1.heap[gc]? = some (.cells #[(.int .i64 c.f0), (.int .i64 c.f1), (.int .i64 c.f2)] 30 (0, 0))) := ⟨hbox⟩; clear hb hbox hg) | (go_at_call 12; (with_reducible refine (Two.qfirst HT.out HMM.out HSS.out x b HH.out).mono ?_); rintro e w2 ⟨rfl, hq, hk⟩; have n0_ : Aside0 (Kp w w2 (fun k => F k ∧ k < w.heap.size)) := ⟨Kp.then_ HK.out hk (fun k h => .inl h)⟩; have n1_ : Aside0 (Two (More (fun k => F k ∧ k < w.heap.size) w1) w2 q db L L s s m) := ⟨hq⟩; have n2_ : Aside0 (w2.heap[gc]? = some (.cells #[(.int .i64 c.f0), (.int .i64 c.f1), (.int .i64 c.f2)] 30 (0, 0))) := ⟨hk.blk BKgc.out (fun h => Nat.not_lt.2 GEgc.out h.2)⟩; have SW : Aside0 (w.heap.size ≤ w1.heap.size) := ⟨HK.out.size⟩; have GC2 : Aside0 (gc < w2.heap.size) := ⟨blk_lt n2_.out⟩; clear HK HT BKgc hq hk; have HK := n0_; have HT := n1_; have BKgc := n2_; clear n0_ n1_ n2_) | ((with_reducible refine gate_dst (N := 7) rfl ?_); refine box_event ?hg (N := 7) ?hd (cs := #[(.int .i64 0), (.int .i64 0), (.int .i64 0)]) (t := 30) ?hr ?_; (case hd => rfl); (case hg => rfl); (case hr => first | (go_simp; done) | (go_simp; rfl)); intro g7 hgx w3 hbox hb; have HBX := Aside0.mk hb; have GEX : Aside0 (w2.heap.size ≤ g7) := ⟨by rw [hgx]; exact Nat.le_refl _⟩; have BKX := Aside0.mk hbox; clear hbox hb hgx; have hzx0 : w3.cell? ⟨g7, 0, none⟩ = some (.int .i64 0) := (blk_cell BKX.out 0).trans rfl; have hzx1 : w3.cell? ⟨g7, 1, none⟩ = some (.int .i64 0) := (blk_cell BKX.out 1).trans rfl; have hzx2 : w3.cell? ⟨g7, 2, none⟩ = some (.int .i64 0) := (blk_cell BKX.out 2).trans rfl; have hzf0 := blk_frozen BKX.out 0; have hzf1 := blk_frozen BKX.out 1; have hzf2 := blk_frozen BKX.out 2) | (go_at_call 33; clear hzx0 hzf0 hzx1 hzf1 hzx2 hzf2; have hbw : Below w2.heap.size w2 (((w3.setCell ⟨g7, 0, none⟩ (.int .i64 x.f0)).setCell ⟨g7, 1, none⟩ (.int .i64 x.f1)).setCell ⟨g7, 2, none⟩ (.int .i64 x.f2)) := below_set (below_set (below_set (HBX.out) GEX.out) GEX.out) GEX.out; have n0_ : Aside0 (Kp w (((w3.setCell ⟨g7, 0, none⟩ (.int .i64 x.f0)).setCell ⟨g7, 1, none⟩ (.int .i64 x.f1)).setCell ⟨g7, 2, none⟩ (.int .i64 x.f2)) (fun k => F k ∧ k < w.heap.size)) := ⟨(Kp.then_ HK.out (Kp.of_below hbw (fun _ => False)) (fun _ h => h.elim))⟩; have n1_ : Aside0 (Two (More (fun k => F k ∧ k < w.heap.size) w1) (((w3.setCell ⟨g7, 0, none⟩ (.int .i64 x.f0)).setCell ⟨g7, 1, none⟩ (.int .i64 x.f1)).setCell ⟨g7, 2, none⟩ (.int .i64 x.f2)) q db L L s s m) := ⟨(Two.below HT.out hbw)⟩; have n2_ : Aside0 ((((w3.setCell ⟨g7, 0, none⟩ (.int .i64 x.f0)).setCell ⟨g7, 1, none⟩ (.int .i64 x.f1)).setCell ⟨g7, 2, none⟩ (.int .i64 x.f2)).heap[gc]? = some (.cells #[(.int .i64 c.f0), (.int .i64 c.f1), (.int .i64 c.f2)] 30 (0, 0))) := ⟨(blk_below BKgc.out hbw)⟩; clear HK HT BKgc; have HK := n0_; have HT := n1_; have BKgc := n2_; clear n0_ n1_ n2_; have BKg7 : Aside0 ((((w3.setCell ⟨g7, 0, none⟩ (.int .i64 x.f0)).setCell ⟨g7, 1, none⟩ (.int .i64 x.f1)).setCell ⟨g7, 2, none⟩ (.int .i64 x.f2)).heap[g7]? = some (.cells #[(.int .i64 x.f0), (.int .i64 x.f1), (.int .i64 x.f2)] 30 (0, 0))) := ⟨by refine blk_put (cs := #[(.int .i64 x.f0), (.int .i64 x.f1), (.int .i64 0)]) ?_ 2 _ rfl; refine blk_put (cs := #[(.int .i64 x.f0), (.int .i64 0), (.int .i64 0)]) ?_ 1 _ rfl; refine blk_put (cs := #[(.int .i64 0), (.int .i64 0), (.int .i64 0)]) ?_ 0 _ rfl; exact BKX.out⟩; clear hbw BKX HBX GEX; generalize (((w3.setCell ⟨g7, 0, none⟩ (.int .i64 x.f0)).setCell ⟨g7, 1, none⟩ (.int .i64 x.f1)).setCell ⟨g7, 2, none⟩ (.int .i64 x.f2)) = w4 at HK HT BKgc BKg7 ⊢; (with_reducible refine (Two.dfirst HT.out HU.out HLL.out HSS.out x b HH.out).mono ?_); rintro e w5 ⟨rfl, hb⟩; have n0_ : Aside0 (Kp w w5 (fun k => F k ∧ k < w.heap.size)) := ⟨(Kp.then_ HK.out (Kp.of_below hb (fun _ => False)) (fun _ h => h.elim))⟩; have n1_ : Aside0 (Two (More (fun k => F k ∧ k < w.heap.size) w1) w5 q db L L s s m) := ⟨(Two.below HT.out hb)⟩; have n2_ : Aside0 (w5.heap[gc]? = some (.cells #[(.int .i64 c.f0), (.int .i64 c.f1), (.int .i64 c.f2)] 30 (0, 0))) := ⟨(blk_below BKgc.out hb)⟩; have n3_ : Aside0 (w5.heap[g7]? = some (.cells #[(.int .i64 x.f0), (.int .i64 x.f1), (.int .i64 x.f2)] 30 (0, 0))) := ⟨(blk_below BKg7.out hb)⟩; clear HK HT BKgc BKg7; have HK := n0_; have HT := n1_; have BKgc := n2_; have BKg7 := n3_; clear n0_ n1_ n2_ n3_; clear hb) | ((with_reducible refine gate_dst (N := 9) rfl ?_); refine box_event ?hg (N := 9) ?hd (cs := #[(.int .i64 0), (.int .i64 0), (.int .i64 0)]) (t := 30) ?hr ?_; (case hd => rfl); (case hg => rfl); (case hr => first | (go_simp; done) | (go_simp; rfl)); intro g9 hgx w6 hbox hb; have HBX := Aside0.mk hb; have GEX : Aside0 (w5.heap.size ≤ g9) := ⟨by rw [hgx]; exact Nat.le_refl _⟩; have BKX := Aside0.mk hbox; clear hbox hb hgx; have hzx0 : w6.cell? ⟨g9, 0, none⟩ = some (.int .i64 0) := (blk_cell BKX.out 0).trans rfl; have hzx1 : w6.cell? ⟨g9, 1, none⟩ = some (.int .i64 0) := (blk_cell BKX.out 1).trans rfl; have hzx2 : w6.cell? ⟨g9, 2, none⟩ = some (.int .i64 0) := (blk_cell BKX.out 2).trans rfl; have hzf0 := blk_frozen BKX.out 0; have hzf1 := blk_frozen BKX.out 1; have hzf2 := blk_frozen BKX.out 2; have hne9 : gc ≠ g9 := (fun e => by have h1 := blk_lt BKgc.out; have h2 := GEX.out; rw [e] at h1; omega); have hne9a := eq_false hne9; have hne9b := eq_false (Ne.symm hne9); have hcc0 : w6.cell? ⟨gc, 0, none⟩ = some (.int .i64 c.f0) := (blk_cell (blk_below BKgc.out HBX.out) 0).trans rfl; have hcc1 : w6.cell? ⟨gc, 1, none⟩ = some (.int .i64 c.f1) := (blk_cell (blk_below BKgc.out HBX.out) 1).trans rfl; have hcc2 : w6.cell? ⟨gc, 2, none⟩ = some (.int .i64 c.f2) := (blk_cell (blk_below BKgc.out HBX.out) 2).trans rfl) | (go_at_call 23; clear hcc0 hcc1 hcc2 hne9 hne9a hne9b; clear hzx0 hzf0 hzx1 hzf1 hzx2 hzf2; have hbw : Below w5.heap.size w5 (((w6.setCell ⟨g9, 0, none⟩ (.int .i64 x.f0)).setCell ⟨g9, 1, none⟩ (.int .i64 x.f1)).setCell ⟨g9, 2, none⟩ (.int .i64 x.f2)) := below_set (below_set (below_set (HBX.out) GEX.out) GEX.out) GEX.out; have n0_ : Aside0 (Kp w (((w6.setCell ⟨g9, 0, none⟩ (.int .i64 x.f0)).setCell ⟨g9, 1, none⟩ (.int .i64 x.f1)).setCell ⟨g9, 2, none⟩ (.int .i64 x.f2)) (fun k => F k ∧ k < w.heap.size)) := ⟨(Kp.then_ HK.out (Kp.of_below hbw (fun _ => False)) (fun _ h => h.elim))⟩; have n1_ : Aside0 (Two (More (fun k => F k ∧ k < w.heap.size) w1) (((w6.setCell ⟨g9, 0, none⟩ (.int .i64 x.f0)).setCell ⟨g9, 1, none⟩ (.int .i64 x.f1)).setCell ⟨g9, 2, none⟩ (.int .i64 x.f2)) q db L L s s m) := ⟨(Two.below HT.out hbw)⟩; have n2_ : Aside0 ((((w6.setCell ⟨g9, 0, none⟩ (.int .i64 x.f0)).setCell ⟨g9, 1, none⟩ (.int .i64 x.f1)).setCell ⟨g9, 2, none⟩ (.int .i64 x.f2)).heap[gc]? = some (.cells #[(.int .i64 c.f0), (.int .i64 c.f1), (.int .i64 c.f2)] 30 (0, 0))) := ⟨(blk_below BKgc.out hbw)⟩; have n3_ : Aside0 ((((w6.setCell ⟨g9, 0, none⟩ (.int .i64 x.f0)).setCell ⟨g9, 1, none⟩ (.int .i64 x.f1)).setCell ⟨g9, 2, none⟩ (.int .i64 x.f2)).heap[g7]? = some (.cells #[(.int .i64 x.f0), (.int .i64 x.f1), (.int .i64 x.f2)] 30 (0, 0))) := ⟨(blk_below BKg7.out hbw)⟩; clear HK HT BKgc BKg7; have HK := n0_; have HT := n1_; have BKgc := n2_; have BKg7 := n3_; clear n0_ n1_ n2_ n3_; have BKg9 : Aside0 ((((w6.setCell ⟨g9, 0, none⟩ (.int .i64 x.f0)).setCell ⟨g9, 1, none⟩ (.int .i64 x.f1)).setCell ⟨g9, 2, none⟩ (.int .i64 x.f2)).heap[g9]? = some (.cells #[(.int .i64 x.f0), (.int .i64 x.f1), (.int .i64 x.f2)] 30 (0, 0))) := ⟨by refine blk_put (cs := #[(.int .i64 x.f0), (.int .i64 x.f1), (.int .i64 0)]) ?_ 2 _ rfl; refine blk_put (cs := #[(.int .i64 x.f0), (.int .i64 0), (.int .i64 0)]) ?_ 1 _ rfl; refine blk_put (cs := #[(.int .i64 0), (.int .i64 0), (.int .i64 0)]) ?_ 0 _ rfl; exact BKX.out⟩; clear hbw BKX HBX GEX; generalize (((w6.setCell ⟨g9, 0, none⟩ (.int .i64 x.f0)).setCell ⟨g9, 1, none⟩ (.int .i64 x.f1)).setCell ⟨g9, 2, none⟩ (.int .i64 x.f2)) = w7 at HK HT BKgc BKg7 BKg9 ⊢; (with_reducible refine (Two.qlevel HT.out c HWC.out).mono ?_); rintro e w8 ⟨rfl, hb⟩; have n0_ : Aside0 (Kp w w8 (fun k => F k ∧ k < w.heap.size)) := ⟨(Kp.then_ HK.out (Kp.of_below hb (fun _ => False)) (fun _ h => h.elim))⟩; have n1_ : Aside0 (Two (More (fun k => F k ∧ k < w.heap.size) w1) w8 q db L L s s m) := ⟨(Two.below HT.out hb)⟩; have n2_ : Aside0 (w8.heap[gc]? = some (.cells #[(.int .i64 c.f0), (.int .i64 c.f1), (.int .i64 c.f2)] 30 (0, 0))) := ⟨(blk_below BKgc.out hb)⟩; have n3_ : Aside0 (w8.heap[g7]? = some (.cells #[(.int .i64 x.f0), (.int .i64 x.f1), (.int .i64 x.f2)] 30 (0, 0))) := ⟨(blk_below BKg7.out hb)⟩; have n4_ : Aside0 (w8.heap[g9]? = some (.cells #[(.int .i64 x.f0), (.int .i64 x.f1), (.int .i64 x.f2)] 30 (0, 0))) := ⟨(blk_below BKg9.out hb)⟩; clear HK HT BKgc BKg7 BKg9; have HK := n0_; have HT := n1_; have BKgc := n2_; have BKg7 := n3_; have BKg9 := n4_; clear n0_ n1_ n2_ n3_ n4_; clear hb; rw [HV1.out, HV2.out]; have hcc0 : w8.cell? ⟨gc, 0, none⟩ = some (.int .i64 c.f0) := (blk_cell BKgc.out 0).trans rfl; have hcc1 : w8.cell? ⟨gc, 1, none⟩ = some (.int .i64 c.f1) := (blk_cell BKgc.out 1).trans rfl; have hcc2 : w8.cell? ⟨gc, 2, none⟩ = some (.int .i64 c.f2) := (blk_cell BKgc.out 2).trans rfl) | (go_at_call 34; (with_reducible refine (Two.dlevel HT.out HU.out c HLL.out).mono ?_); rintro e w9 ⟨rfl, hb⟩; clear hcc0 hcc1 hcc2; have n0_ : Aside0 (Kp w w9 (fun k => F k ∧ k < w.heap.size)) := ⟨(Kp.then_ HK.out (Kp.of_below hb (fun _ => False)) (fun _ h => h.elim))⟩; have n1_ : Aside0 (Two (More (fun k => F k ∧ k < w.heap.size) w1) w9 q db L L s s m) := ⟨(Two.below HT.out hb)⟩; have n2_ : Aside0 (w9.heap[gc]? = some (.cells #[(.int .i64 c.f0), (.int .i64 c.f1), (.int .i64 c.f2)] 30 (0, 0))) := ⟨(blk_below BKgc.out hb)⟩; have n3_ : Aside0 (w9.heap[g7]? = some (.cells #[(.int .i64 x.f0), (.int .i64 x.f1), (.int .i64 x.f2)] 30 (0, 0))) := ⟨(blk_below BKg7.out hb)⟩; have n4_ : Aside0 (w9.heap[g9]? = some (.cells #[(.int .i64 x.f0), (.int .i64 x.f1), (.int .i64 x.f2)] 30 (0, 0))) := ⟨(blk_below BKg9.out hb)⟩; clear HK HT BKgc BKg7 BKg9; have HK := n0_; have HT := n1_; have BKgc := n2_; have BKg7 := n3_; have BKg9 := n4_; clear n0_ n1_ n2_ n3_ n4_; clear hb; rw [HV1.out, HV2.out]))
  obtain ⟨A, cp, va, hdb⟩ := Two.dblk HT.out
  rw [HNL.out] at hdb
  have BKdb := Aside0.mk hdb
  clear hdb
  refine start_ (n := 36) (S := fun w' => w'.cell? ⟨db, 0, none⟩ = some (.slice A n cp) ∧ w'.cell? ⟨g7, 0, none⟩ = some (.int .i64 x.f0) ∧ w'.cell? ⟨g7, 1, none⟩ = some (.int .i64 x.f1) ∧ w'.cell? ⟨g7, 2, none⟩ = some (.int .i64 x.f2) ∧ w'.cell? ⟨g9, 0, none⟩ = some (.int .i64 x.f0) ∧ w'.cell? ⟨g9, 1, none⟩ = some (.int .i64 x.f1) ∧ w'.cell? ⟨g9, 2, none⟩ = some (.int .i64 x.f2)) (ds := [30, 32, 33]) #[false, false, false, false, false, false, false, false, false, false, false, false, false, false, false, false, false, false, false, false, false, false, false, false, false, false, false, false, false, false, false, false, false, false, false, false] (by kernel_rfl) rfl rfl ⟨(blk_cell BKdb.out 0).trans rfl, (blk_cell BKg7.out 0).trans rfl, (blk_cell BKg7.out 1).trans rfl, (blk_cell BKg7.out 2).trans rfl, (blk_cell BKg9.out 0).trans rfl, (blk_cell BKg9.out 1).trans rfl, (blk_cell BKg9.out 2).trans rfl⟩ (fun hHeld => ?_)
  refine take_ (i := 0) (N := some 37) (v := ?_) (a' := ?_) #[true, false, false, false, false, false, false, false, false, false, false, false, false, false, false, false, false, false, false, false, false, false, false, false, false, false, false, false, false, false, false, false, false, false, false, false] rfl rfl (by kernel_rfl) (fun _ _ _ h => h) (Or.inl ⟨by rfl, ?_⟩) hHeld ?_ ?_
  rotate_left
  · rintro w' ⟨s0, s1, s2, s3, s4, s5, s6⟩
    go_simp
    with_reducible rfl
  rotate_left
  · simp only [Act.put, List.setIfInBounds_toArray, List.set_cons_zero, List.set_cons_succ, i64_w, i32_w]
    rfl
  refine take_ (i := 1) (N := some 38) (v := ?_) (a' := ?_) #[true, true, false, false, false, false, false, false, false, false, false, false, false, false, false, false, false, false, false, false, false, false, false, false, false, false, false, false, false, false, false, false, false, false, false, false] rfl rfl (by kernel_rfl) (fun _ _ _ h => h) (Or.inl ⟨by rfl, ?_⟩) hHeld ?_ ?_
  rotate_left
  · rintro w' ⟨s0, s1, s2, s3, s4, s5, s6⟩
    go_simp
    with_reducible rfl
  rotate_left
  · simp only [Act.put, List.setIfInBounds_toArray, List.set_cons_zero, List.set_cons_succ, i64_w, i32_w]
    rfl
  refine pure_ (i := 2) (N := some 39) (v := ?_) (a' := ?_) #[true, true, true, false, false, false, false, false, false, false, false, false, false, false, false, false, false, false, false, false, false, false, false, false, false, false, false, false, false, false, false, false, false, false, false, false] rfl rfl (by kernel_rfl) (fun _ _ _ h => h) (Or.inl ⟨by rfl, ?_⟩) ?_ ?_
  rotate_left
  · intro w'
    go_simp
    with_reducible rfl
  rotate_left
  · simp only [Act.put, List.setIfInBounds_toArray, List.set_cons_zero, List.set_cons_succ, i64_w, i32_w]
    rfl
  refine pure_ (i := 3) (N := some 40) (v := ?_) (a' := ?_) #[true, true, true, true, false, false, false, false, false, false, false, false, false, false, false, false, false, false, false, false, false, false, false, false, false, false, false, false, false, false, false, false, false, false, false, false] rfl rfl (by kernel_rfl) (fun _ _ _ h => h) (Or.inl ⟨by rfl, ?_⟩) ?_ ?_
  rotate_left
  · intro w'
    go_simp
    with_reducible rfl
  rotate_left
  · simp only [Act.put, List.setIfInBounds_toArray, List.set_cons_zero, List.set_cons_succ, i64_w, i32_w]
    rfl
  refine pure_ (i := 4) (N := some 41) (v := ?_) (a' := ?_) #[true, true, true, true, true, false, false, false, false, false, false, false, false, false, false, false, false, false, false, false, false, false, false, false, false, false, false, false, false, false, false, false, false, false, false, false] rfl rfl (by kernel_rfl) (fun _ _ _ h => h) (Or.inl ⟨by rfl, ?_⟩) ?_ ?_
  rotate_left
  · intro w'
    go_simp
    with_reducible rfl
  rotate_left
  · simp only [Act.put, List.setIfInBounds_toArray, List.set_cons_zero, List.set_cons_succ, i64_w, i32_w]
    rfl
  refine pure_ (i := 5) (N := some 42) (v := ?_) (a' := ?_) #[true, true, true, true, true, true, false, false, false, false, false, false, false, false, false, false, false, false, false, false, false, false, false, false, false, false, false, false, false, false, false, false, false, false, false, false] rfl rfl (by kernel_rfl) (fun _ _ _ h => h) (Or.inl ⟨by rfl, ?_⟩) ?_ ?_
  rotate_left
  · intro w'
    go_simp
    with_reducible rfl
  rotate_left
  · simp only [Act.put, List.setIfInBounds_toArray, List.set_cons_zero, List.set_cons_succ, i64_w, i32_w]
    rfl
  refine pure_ (i := 6) (N := some 43) (v := ?_) (a' := ?_) #[true, true, true, true, true, true, true, false, false, false, false, false, false, false, false, false, false, false, false, false, false, false, false, false, false, false, false, false, false, false, false, false, false, false, false, false] rfl rfl (by kernel_rfl) (fun _ _ _ h => h) (Or.inl ⟨by rfl, ?_⟩) ?_ ?_
  rotate_left
  · intro w'
    go_simp
    with_reducible rfl
  rotate_left
  · simp only [Act.put, List.setIfInBounds_toArray, List.set_cons_zero, List.set_cons_succ, i64_w, i32_w]
    rfl
  refine pure_ (i := 7) (N := some 44) (v := ?_) (a' := ?_) #[true, true, true, true, true, true, true, true, false, false, false, false, false, false, false, false, false, false, false, false, false, false, false, false, false, false, false, false, false, false, false, false, false, false, false, false] rfl rfl (by kernel_rfl) (fun _ _ _ h => h) (Or.inl ⟨by rfl, ?_⟩) ?_ ?_
  rotate_left
  · intro w'
    go_simp
    with_reducible rfl
  rotate_left
  · simp only [Act.put, List.setIfInBounds_toArray, List.set_cons_zero, List.set_cons_succ, i64_w, i32_w]
    rfl
  refine pure_ (i := 8) (N := some 45) (v := ?_) (a' := ?_) #[true, true, true, true, true, true, true, true, true, false, false, false, false, false, false, false, false, false, false, false, false, false, false, false, false, false, false, false, false, false, false, false, false, false, false, false] rfl rfl (by kernel_rfl) (fun _ _ _ h => h) (Or.inl ⟨by rfl, ?_⟩) ?_ ?_
  rotate_left
  · intro w'
    go_simp
    with_reducible rfl
  rotate_left
  · simp only [Act.put, List.setIfInBounds_toArray, List.set_cons_zero, List.set_cons_succ, i64_w, i32_w]
    rfl
  refine pure_ (i := 9) (N := some 46) (v := ?_) (a' := ?_) #[true, true, true, true, true, true, true, true, true, true, false, false, false, false, false, false, false, false, false, false, false, false, false, false, false, false, false, false, false, false, false, false, false, false, false, false] rfl rfl (by kernel_rfl) (fun _ _ _ h => h) (Or.inl ⟨by rfl, ?_⟩) ?_ ?_
  rotate_left
  · intro w'
    go_simp
    with_reducible rfl
  rotate_left
  · simp only [Act.put, List.setIfInBounds_toArray, List.set_cons_zero, List.set_cons_succ, i64_w, i32_w]
    rfl
  refine pure_ (i := 10) (N := some 47) (v := ?_) (a' := ?_) #[true, true, true, true, true, true, true, true, true, true, true, false, false, false, false, false, false, false, false, false, false, false, false, false, false, false, false, false, false, false, false, false, false, false, false, false] rfl rfl (by kernel_rfl) (fun _ _ _ h => h) (Or.inl ⟨by rfl, ?_⟩) ?_ ?_
  rotate_left
  · intro w'
    go_simp
    with_reducible rfl
  rotate_left
  · simp only [Act.put, List.setIfInBounds_toArray, List.set_cons_zero, List.set_cons_succ, i64_w, i32_w]
    rfl
  refine pure_ (i := 11) (N := some 48) (v := ?_) (a' := ?_) #[true, true, true, true, true, true, true, true, true, true, true, true, false, false, false, false, false, false, false, false, false, false, false, false, false, false, false, false, false, false, false, false, false, false, false, false] rfl rfl (by kernel_rfl) (fun _ _ _ h => h) (Or.inl ⟨by rfl, ?_⟩) ?_ ?_
  rotate_left
  · intro w'
    go_simp
    with_reducible rfl
  rotate_left
  · simp only [Act.put, List.setIfInBounds_toArray, List.set_cons_zero, List.set_cons_succ, i64_w, i32_w]
    rfl
  refine pure_ (i := 12) (N := some 49) (v := ?_) (a' := ?_) #[true, true, true, true, true, true, true, true, true, true, true, true, true, false, false, false, false, false, false, false, false, false, false, false, false, false, false, false, false, false, false, false, false, false, false, false] rfl rfl (by kernel_rfl) (fun _ _ _ h => h) (Or.inl ⟨by rfl, ?_⟩) ?_ ?_
  rotate_left
  · intro w'
    go_simp
    with_reducible rfl
  rotate_left
  · simp only [Act.put, List.setIfInBounds_toArray, List.set_cons_zero, List.set_cons_succ, i64_w, i32_w]
    rfl
  refine pure_ (i := 13) (N := some 50) (v := ?_) (a' := ?_) #[true, true, true, true, true, true, true, true, true, true, true, true, true, true, false, false, false, false, false, false, false, false, false, false, false, false, false, false, false, false, false, false, false, false, false, false] rfl rfl (by kernel_rfl) (fun _ _ _ h => h) (Or.inl ⟨by rfl, ?_⟩) ?_ ?_
  rotate_left
  · intro w'
    go_simp
    with_reducible rfl
  rotate_left
  · simp only [Act.put, List.setIfInBounds_toArray, List.set_cons_zero, List.set_cons_succ, i64_w, i32_w]
    rfl
  refine pure_ (i := 14) (N := some 51) (v := ?_) (a' := ?_) #[true, true, true, true, true, true, true, true, true, true, true, true, true, true, true, false, false, false, false, false, false, false, false, false, false, false, false, false, false, false, false, false, false, false, false, false] rfl rfl (by kernel_rfl) (fun _ _ _ h => h) (Or.inl ⟨by rfl, ?_⟩) ?_ ?_
  rotate_left
  · intro w'
    go_simp
    with_reducible rfl
  rotate_left
  · simp only [Act.put, List.setIfInBounds_toArray, List.set_cons_zero, List.set_cons_succ, i64_w, i32_w]
    rfl
  refine pure_ (i := 15) (N := some 52) (v := ?_) (a' := ?_) #[true, true, true, true, true, true, true, true, true, true, true, true, true, true, true, true, false, false, false, false, false, false, false, false, false, false, false, false, false, false, false, false, false, false, false, false] rfl rfl (by kernel_rfl) (fun _ _ _ h => h) (Or.inl ⟨by rfl, ?_⟩) ?_ ?_
  rotate_left
  · intro w'
    go_simp
    with_reducible rfl
  rotate_left
  · simp only [Act.put, List.setIfInBounds_toArray, List.set_cons_zero, List.set_cons_succ, i64_w, i32_w]
    rfl
  refine pure_ (i := 16) (N := some 53) (v := ?_) (a' := ?_) #[true, true, true, true, true, true, true, true, true, true, true, true, true, true, true, true, true, false, false, false, false, false, false, false, false, false, false, false, false, false, false, false, false, false, false, false] rfl rfl (by kernel_rfl) (fun _ _ _ h => h) (Or.inl ⟨by rfl, ?_⟩) ?_ ?_
  rotate_left
  · intro w'
    go_simp
    with_reducible rfl
  rotate_left
  · simp only [Act.put, List.setIfInBounds_toArray, List.set_cons_zero, List.set_cons_succ, i64_w, i32_w]
    rfl
  refine pure_ (i := 17) (N := some 54) (v := ?_) (a' := ?_) #[true, true, true, true, true, true, true, true, true, true, true, true, true, true, true, true, true, true, false, false, false, false, false, false, false, false, false, false, false, false, false, false, false, false, false, false] rfl rfl (by kernel_rfl) (fun _ _ _ h => h) (Or.inl ⟨by rfl, ?_⟩) ?_ ?_
  rotate_left
  · intro w'
    go_simp
    with_reducible rfl
  rotate_left
  · simp only [Act.put, List.setIfInBounds_toArray, List.set_cons_zero, List.set_cons_succ, i64_w, i32_w]
    rfl
  refine pure_ (i := 18) (N := some 55) (v := ?_) (a' := ?_) #[true, true, true, true, true, true, true, true, true, true, true, true, true, true, true, true, true, true, true, false, false, false, false, false, false, false, false, false, false, false, false, false, false, false, false, false] rfl rfl (by kernel_rfl) (fun _ _ _ h => h) (Or.inl ⟨by rfl, ?_⟩) ?_ ?_
  rotate_left
  · intro w'
    go_simp
    with_reducible rfl
  rotate_left
  · simp only [Act.put, List.setIfInBounds_toArray, List.set_cons_zero, List.set_cons_succ, i64_w, i32_w]
    rfl
  refine pure_ (i := 19) (N := some 56) (v := ?_) (a' := ?_) #[true, true, true, true, true, true, true, true, true, true, true, true, true, true, true, true, true, true, true, true, false, false, false, false, false, false, false, false, false, false, false, false, false, false, false, false] rfl rfl (by kernel_rfl) (fun _ _ _ h => h) (Or.inl ⟨by rfl, ?_⟩) ?_ ?_
  rotate_left
  · intro w'
    go_simp
    with_reducible rfl
  rotate_left
  · simp only [Act.put, List.setIfInBounds_toArray, List.set_cons_zero, List.set_cons_succ, i64_w, i32_w]
    rfl
  refine pure_ (i := 21) (N := some 58) (v := ?_) (a' := ?_) #[true, true, true, true, true, true, true, true, true, true, true, true, true, true, true, true, true, true, true, true, false, true, false, false, false, false, false, false, false, false, false, false, false, false, false, false] rfl rfl (by kernel_rfl) (fun _ _ _ h => h) (Or.inl ⟨by rfl, ?_⟩) ?_ ?_
  rotate_left
  · intro w'
    go_simp
    with_reducible rfl
  rotate_left
  · simp only [Act.put, List.setIfInBounds_toArray, List.set_cons_zero, List.set_cons_succ, i64_w, i32_w]
    rfl
  refine pure_ (i := 22) (N := some 59) (v := ?_) (a' := ?_) #[true, true, true, true, true, true, true, true, true, true, true, true, true, true, true, true, true, true, true, true, false, true, true, false, false, false, false, false, false, false, false, false, false, false, false, false] rfl rfl (by kernel_rfl) (fun _ _ _ h => h) (Or.inl ⟨by rfl, ?_⟩) ?_ ?_
  rotate_left
  · intro w'
    go_simp
    with_reducible rfl
  rotate_left
  · simp only [Act.put, List.setIfInBounds_toArray, List.set_cons_zero, List.set_cons_succ, i64_w, i32_w]
    rfl
  refine pure_ (i := 23) (N := some 60) (v := ?_) (a' := ?_) #[true, true, true, true, true, true, true, true, true, true, true, true, true, true, true, true, true, true, true, true, false, true, true, true, false, false, false, false, false, false, false, false, false, false, false, false] rfl rfl (by kernel_rfl) (fun _ _ _ h => h) (Or.inl ⟨by rfl, ?_⟩) ?_ ?_
  rotate_left
  · intro w'
    go_simp
    with_reducible rfl
  rotate_left
  · simp only [Act.put, List.setIfInBounds_toArray, List.set_cons_zero, List.set_cons_succ, i64_w, i32_w]
    rfl
  refine take_ (i := 24) (N := some 61) (v := ?_) (a' := ?_) #[true, true, true, true, true, true, true, true, true, true, true, true, true, true, true, true, true, true, true, true, false, true, true, true, true, false, false, false, false, false, false, false, false, false, false, false] rfl rfl (by kernel_rfl) (fun _ _ _ h => h) (Or.inl ⟨by rfl, ?_⟩) hHeld ?_ ?_
  rotate_left
  · rintro w' ⟨s0, s1, s2, s3, s4, s5, s6⟩
    go_simp
    with_reducible rfl
  rotate_left
  · simp only [Act.put, List.setIfInBounds_toArray, List.set_cons_zero, List.set_cons_succ, i64_w, i32_w]
    rfl
  refine pure_ (i := 25) (N := some 62) (v := ?_) (a' := ?_) #[true, true, true, true, true, true, true, true, true, true, true, true, true, true, true, true, true, true, true, true, false, true, true, true, true, true, false, false, false, false, false, false, false, false, false, false] rfl rfl (by kernel_rfl) (fun _ _ _ h => h) (Or.inl ⟨by rfl, ?_⟩) ?_ ?_
  rotate_left
  · intro w'
    go_simp
    with_reducible rfl
  rotate_left
  · simp only [Act.put, List.setIfInBounds_toArray, List.set_cons_zero, List.set_cons_succ, i64_w, i32_w]
    rfl
  refine one_ (i := 20) (N := some 57) #[true, true, true, true, true, true, true, true, true, true, true, true, true, true, true, true, true, true, true, true, true, true, true, true, true, true, false, false, false, false, false, false, false, false, false, false] rfl rfl (by kernel_rfl) (by decide) (fun K hK => ?_)
  have n0_ : Aside0 (Kp w w9.drew (fun k => F k ∧ k < w.heap.size)) := ⟨(Kp.then_ HK.out (Kp.of_below (below_drew1 (Below.refl w9.heap.size w9)) (fun _ => False)) (fun _ h => h.elim))⟩
  have n1_ : Aside0 (Two (More (fun k => F k ∧ k < w.heap.size) w1) w9.drew q db L L s s m) := ⟨(Two.below HT.out (below_drew1 (Below.refl w9.heap.size w9)))⟩
  have n2_ : Aside0 (w9.drew.heap[gc]? = some (.cells #[(.int .i64 c.f0), (.int .i64 c.f1), (.int .i64 c.f2)] 30 (0, 0))) := ⟨(blk_below BKgc.out (below_drew1 (Below.refl w9.heap.size w9)))⟩
  have n3_ : Aside0 (w9.drew.heap[g7]? = some (.cells #[(.int .i64 x.f0), (.int .i64 x.f1), (.int .i64 x.f2)] 30 (0, 0))) := ⟨(blk_below BKg7.out (below_drew1 (Below.refl w9.heap.size w9)))⟩
  have n4_ : Aside0 (w9.drew.heap[g9]? = some (.cells #[(.int .i64 x.f0), (.int .i64 x.f1), (.int .i64 x.f2)] 30 (0, 0))) := ⟨(blk_below BKg9.out (below_drew1 (Below.refl w9.heap.size w9)))⟩
  have n5_ : Aside0 (w9.drew.heap[db]? = some (.cells #[.slice A n cp, va] 41 (0, 0))) := ⟨(blk_below BKdb.out (below_drew1 (Below.refl w9.heap.size w9)))⟩
  clear HK HT BKgc BKg7 BKg9 BKdb
  have HK := n0_
  have HT := n1_
  have BKgc := n2_
  have BKg7 := n3_
  have BKg9 := n4_
  have BKdb := n5_
  clear n0_ n1_ n2_ n3_ n4_ n5_
  refine goes_ Try.func14 (by kernel_rfl) rfl #[.pointer (some ⟨q, 0, none⟩)] (by rfl) rfl rfl (by simp only [List.map_toArray, List.map_cons, List.map_nil]; rfl) ?_
  with_reducible refine (Two.qlen HT.out).mono ?_
  rintro e w10 ⟨rfl, rfl⟩
  refine ⟨_, rfl, ?_⟩
  rw [HNL.out]
  refine hK.out _ _ ⟨(blk_cell BKdb.out 0).trans rfl, (blk_cell BKg7.out 0).trans rfl, (blk_cell BKg7.out 1).trans rfl, (blk_cell BKg7.out 2).trans rfl, (blk_cell BKg9.out 0).trans rfl, (blk_cell BKg9.out 1).trans rfl, (blk_cell BKg9.out 2).trans rfl⟩ (fun hHeld => ?_)
  clear hK K
  refine norm_ (a' := ?_) ?_ ?_
  rotate_left
  · show Act.put _ (some 57) _ = _
    simp only [Act.put, List.setIfInBounds_toArray, List.set_cons_zero, List.set_cons_succ, i64_w, i32_w]
    rfl
  refine pure_ (i := 26) (N := some 63) (v := ?_) (a' := ?_) #[true, true, true, true, true, true, true, true, true, true, true, true, true, true, true, true, true, true, true, true, true, true, true, true, true, true, true, false, false, false, false, false, false, false, false, false] rfl rfl (by kernel_rfl) (fun _ _ _ h => h) (Or.inl ⟨by rfl, ?_⟩) ?_ ?_
  rotate_left
  · intro w'
    go_simp
    with_reducible rfl
  rotate_left
  · simp only [Act.put, List.setIfInBounds_toArray, List.set_cons_zero, List.set_cons_succ, i64_w, i32_w]
    rfl
  refine pure_ (i := 27) (N := some 64) (v := ?_) (a' := ?_) #[true, true, true, true, true, true, true, true, true, true, true, true, true, true, true, true, true, true, true, true, true, true, true, true, true, true, true, true, false, false, false, false, false, false, false, false] rfl rfl (by kernel_rfl) (fun _ _ _ h => h) (Or.inl ⟨by rfl, ?_⟩) ?_ ?_
  rotate_left
  · intro w'
    go_simp
    with_reducible rfl
  rotate_left
  · simp only [Act.put, List.setIfInBounds_toArray, List.set_cons_zero, List.set_cons_succ, i64_w, i32_w]
    rfl
  refine pure_ (i := 28) (N := some 65) (v := ?_) (a' := ?_) #[true, true, true, true, true, true, true, true, true, true, true, true, true, true, true, true, true, true, true, true, true, true, true, true, true, true, true, true, true, false, false, false, false, false, false, false] rfl rfl (by kernel_rfl) (fun _ _ _ h => h) (Or.inl ⟨by rfl, ?_⟩) ?_ ?_
  rotate_left
  · intro w'
    go_simp
    with_reducible rfl
  rotate_left
  · simp only [Act.put, List.setIfInBounds_toArray, List.set_cons_zero, List.set_cons_succ, i64_w, i32_w]
    rfl
  refine pure_ (i := 29) (N := some 66) (v := ?_) (a' := ?_) #[true, true, true, true, true, true, true, true, true, true, true, true, true, true, true, true, true, true, true, true, true, true, true, true, true, true, true, true, true, true, false, false, false, false, false, false] rfl rfl (by kernel_rfl) (fun _ _ _ h => h) (Or.inl ⟨by rfl, ?_⟩) ?_ ?_
  rotate_left
  · intro w'
    go_simp
    with_reducible rfl
  rotate_left
  · simp only [Act.put, List.setIfInBounds_toArray, List.set_cons_zero, List.set_cons_succ, i64_w, i32_w]
    rfl
  refine pure_ (i := 31) (N := some 68) (v := ?_) (a' := ?_) #[true, true, true, true, true, true, true, true, true, true, true, true, true, true, true, true, true, true, true, true, true, true, true, true, true, true, true, true, true, true, false, true, false, false, false, false] rfl rfl (by kernel_rfl) (fun _ _ _ h => h) (Or.inl ⟨by rfl, ?_⟩) ?_ ?_
  rotate_left
  · intro w'
    go_simp
    with_reducible rfl
  rotate_left
  · simp only [Act.put, List.setIfInBounds_toArray, List.set_cons_zero, List.set_cons_succ, i64_w, i32_w]
    rfl
  refine last_ (i := 30) (N := some 67) #[true, true, true, true, true, true, true, true, true, true, true, true, true, true, true, true, true, true, true, true, true, true, true, true, true, true, true, true, true, true, true, true, false, false, false, false] rfl rfl (by kernel_rfl) (by decide) (fun K hK => ?_)
  refine goes_ Try.func11 (by kernel_rfl) rfl #[.pointer (some ⟨q, 0, none⟩)] (by rfl) rfl rfl (by simp only [List.map_toArray, List.map_cons, List.map_nil]; rfl) ?_
  with_reducible refine (Two.qcells HT.out HLL.out HSS.out).mono ?_
  rintro e w11 ⟨v, rfl, hR, hb⟩
  refine ⟨_, rfl, ?_⟩
  rw [HCL.out] at hR
  obtain ⟨B1, bc1, ev⟩ := Kd.R_slice hR
  subst ev
  have n0_ : Aside0 (Kp w w11 (fun k => F k ∧ k < w.heap.size)) := ⟨(Kp.then_ HK.out (Kp.of_below hb (fun _ => False)) (fun _ h => h.elim))⟩
  have n1_ : Aside0 (Two (More (fun k => F k ∧ k < w.heap.size) w1) w11 q db L L s s m) := ⟨(Two.below HT.out hb)⟩
  have n2_ : Aside0 (w11.heap[gc]? = some (.cells #[(.int .i64 c.f0), (.int .i64 c.f1), (.int .i64 c.f2)] 30 (0, 0))) := ⟨(blk_below BKgc.out hb)⟩
  have n3_ : Aside0 (w11.heap[g7]? = some (.cells #[(.int .i64 x.f0), (.int .i64 x.f1), (.int .i64 x.f2)] 30 (0, 0))) := ⟨(blk_below BKg7.out hb)⟩
  have n4_ : Aside0 (w11.heap[g9]? = some (.cells #[(.int .i64 x.f0), (.int .i64 x.f1), (.int .i64 x.f2)] 30 (0, 0))) := ⟨(blk_below BKg9.out hb)⟩
  have n5_ : Aside0 (w11.heap[db]? = some (.cells #[.slice A n cp, va] 41 (0, 0))) := ⟨(blk_below BKdb.out hb)⟩
  clear HK HT BKgc BKg7 BKg9 BKdb
  have HK := n0_
  have HT := n1_
  have BKgc := n2_
  have BKg7 := n3_
  have BKg9 := n4_
  have BKdb := n5_
  clear n0_ n1_ n2_ n3_ n4_ n5_
  have HL1 : Aside0 (Kd.R k30 30 w11 0 (fun _ => True) (.slice B1 l.length bc1) l) := ⟨Kd.R_mono hR (fun _ _ => trivial)⟩
  clear hR hb
  refine hK.out _ _ ?_
  clear hK K
  refine norm_ (a' := ?_) ?_ ?_
  rotate_left
  · show Act.put _ (some 67) _ = _
    simp only [Act.put, List.setIfInBounds_toArray, List.set_cons_zero, List.set_cons_succ, i64_w, i32_w]
    rfl
  refine last_ (i := 32) (N := some 69) #[true, true, true, true, true, true, true, true, true, true, true, true, true, true, true, true, true, true, true, true, true, true, true, true, true, true, true, true, true, true, true, true, true, false, false, false] rfl rfl (by kernel_rfl) (by decide) (fun K hK => ?_)
  refine goes_ Try.func35 (by kernel_rfl) rfl #[.pointer (some ⟨db, 0, none⟩)] (by rfl) rfl rfl (by simp only [List.map_toArray, List.map_cons, List.map_nil]; rfl) ?_
  with_reducible refine (Two.dcells HT.out HU.out HLL.out HSS.out).mono ?_
  rintro e w12 ⟨v, rfl, hR, hb⟩
  refine ⟨_, rfl, ?_⟩
  rw [HCL.out] at hR
  obtain ⟨B2, bc2, ev⟩ := Kd.R_slice hR
  subst ev
  have n0_ : Aside0 (Kp w w12 (fun k => F k ∧ k < w.heap.size)) := ⟨(Kp.then_ HK.out (Kp.of_below hb (fun _ => False)) (fun _ h => h.elim))⟩
  have n1_ : Aside0 (Two (More (fun k => F k ∧ k < w.heap.size) w1) w12 q db L L s s m) := ⟨(Two.below HT.out hb)⟩
  have n2_ : Aside0 (w12.heap[gc]? = some (.cells #[(.int .i64 c.f0), (.int .i64 c.f1), (.int .i64 c.f2)] 30 (0, 0))) := ⟨(blk_below BKgc.out hb)⟩
  have n3_ : Aside0 (w12.heap[g7]? = some (.cells #[(.int .i64 x.f0), (.int .i64 x.f1), (.int .i64 x.f2)] 30 (0, 0))) := ⟨(blk_below BKg7.out hb)⟩
  have n4_ : Aside0 (w12.heap[g9]? = some (.cells #[(.int .i64 x.f0), (.int .i64 x.f1), (.int .i64 x.f2)] 30 (0, 0))) := ⟨(blk_below BKg9.out hb)⟩
  have n5_ : Aside0 (w12.heap[db]? = some (.cells #[.slice A n cp, va] 41 (0, 0))) := ⟨(blk_below BKdb.out hb)⟩
  have n6_ : Aside0 (Kd.R k30 30 w12 0 (fun _ => True) (.slice B1 l.length bc1) l) := ⟨(Kd.R_below HL1.out hb)⟩
  clear HK HT BKgc BKg7 BKg9 BKdb HL1
  have HK := n0_
  have HT := n1_
  have BKgc := n2_
  have BKg7 := n3_
  have BKg9 := n4_
  have BKdb := n5_
  have HL1 := n6_
  clear n0_ n1_ n2_ n3_ n4_ n5_ n6_
  have HL2 : Aside0 (Kd.R k30 30 w12 0 (fun _ => True) (.slice B2 l.length bc2) l) := ⟨Kd.R_mono hR (fun _ _ => trivial)⟩
  clear hR hb
  refine hK.out _ _ ?_
  clear hK K
  refine norm_ (a' := ?_) ?_ ?_
  rotate_left
  · show Act.put _ (some 69) _ = _
    simp only [Act.put, List.setIfInBounds_toArray, List.set_cons_zero, List.set_cons_succ, i64_w, i32_w]
    rfl
  refine last_ (i := 33) (N := some 70) #[true, true, true, true, true, true, true, true, true, true, true, true, true, true, true, true, true, true, true, true, true, true, true, true, true, true, true, true, true, true, true, true, true, true, false, false] rfl rfl (by kernel_rfl) (by decide) (fun K hK => ?_)
  refine goes_ Try.func15 (by kernel_rfl) rfl #[.slice B1 l.length bc1, .slice B2 l.length bc2] (by rfl) rfl rfl (by simp only [List.map_toArray, List.map_cons, List.map_nil]; rfl) ?_
  with_reducible refine (whittlelaw14_cells.calls kc B1 bc1 l B2 bc2 l true w12 (Kd.R_reads' HL1.out).2.2 (Kd.R_reads' HL1.out).2.1 (Kd.R_reads' HL2.out).2.2 (Kd.R_reads' HL2.out).2.1 HKC.out).mono ?_
  rintro e w13 ⟨rfl, hd⟩
  refine ⟨_, rfl, ?_⟩
  have hb := hd.below
  have n0_ : Aside0 (Kp w w13 (fun k => F k ∧ k < w.heap.size)) := ⟨(Kp.then_ HK.out (Kp.of_below hb (fun _ => False)) (fun _ h => h.elim))⟩
  have n1_ : Aside0 (Two (More (fun k => F k ∧ k < w.heap.size) w1) w13 q db L L s s m) := ⟨(Two.below HT.out hb)⟩
  have n2_ : Aside0 (w13.heap[gc]? = some (.cells #[(.int .i64 c.f0), (.int .i64 c.f1), (.int .i64 c.f2)] 30 (0, 0))) := ⟨(blk_below BKgc.out hb)⟩
  have n3_ : Aside0 (w13.heap[g7]? = some (.cells #[(.int .i64 x.f0), (.int .i64 x.f1), (.int .i64 x.f2)] 30 (0, 0))) := ⟨(blk_below BKg7.out hb)⟩
  have n4_ : Aside0 (w13.heap[g9]? = some (.cells #[(.int .i64 x.f0), (.int .i64 x.f1), (.int .i64 x.f2)] 30 (0, 0))) := ⟨(blk_below BKg9.out hb)⟩
  have n5_ : Aside0 (w13.heap[db]? = some (.cells #[.slice A n cp, va] 41 (0, 0))) := ⟨(blk_below BKdb.out hb)⟩
  have n6_ : Aside0 (Kd.R k30 30 w13 0 (fun _ => True) (.slice B1 l.length bc1) l) := ⟨(Kd.R_below HL1.out hb)⟩
  have n7_ : Aside0 (Kd.R k30 30 w13 0 (fun _ => True) (.slice B2 l.length bc2) l) := ⟨(Kd.R_below HL2.out hb)⟩
  clear HK HT BKgc BKg7 BKg9 BKdb HL1 HL2
  have HK := n0_
  have HT := n1_
  have BKgc := n2_
  have BKg7 := n3_
  have BKg9 := n4_
  have BKdb := n5_
  have HL1 := n6_
  have HL2 := n7_
  clear n0_ n1_ n2_ n3_ n4_ n5_ n6_ n7_
  clear hb hd
  refine hK.out _ _ ?_
  clear hK K
  refine norm_ (a' := ?_) ?_ ?_
  rotate_left
  · show Act.put _ (some 70) _ = _
    simp only [Act.put, List.setIfInBounds_toArray, List.set_cons_zero, List.set_cons_succ, i64_w, i32_w]
    rfl
  refine pure_ (i := 34) (N := some 71) (v := ?_) (a' := ?_) #[true, true, true, true, true, true, true, true, true, true, true, true, true, true, true, true, true, true, true, true, true, true, true, true, true, true, true, true, true, true, true, true, true, true, true, false] rfl rfl (by kernel_rfl) (fun _ _ _ h => h) (Or.inl ⟨by rfl, ?_⟩) ?_ ?_
  rotate_left
  · intro w'
    go_simp
    with_reducible rfl
  rotate_left
  · simp only [Act.put, List.setIfInBounds_toArray, List.set_cons_zero, List.set_cons_succ, i64_w, i32_w]
    rfl
  refine pure_ (i := 35) (N := some 6) (v := ?_) (a' := ?_) #[true, true, true, true, true, true, true, true, true, true, true, true, true, true, true, true, true, true, true, true, true, true, true, true, true, true, true, true, true, true, true, true, true, true, true, true] rfl rfl (by kernel_rfl) (fun _ _ _ h => h) (Or.inl ⟨by rfl, ?_⟩) ?_ ?_
  rotate_left
  · intro w'
    go_simp
    with_reducible rfl
  rotate_left
  · simp only [Act.put, List.setIfInBounds_toArray, List.set_cons_zero, List.set_cons_succ, i64_w, i32_w]
    rfl
  refine done_ (by kernel_rfl) ?_
  go_wp2
  go_ret
  exact ⟨rfl, HT.out.mono (fun k h _ => h.elim (fun h => .inl h.1) (fun h => .inr (Nat.le_trans SW.out h))), HK.out.mono (fun k h => h.1)⟩
end Go.Proofs.Ytgkbcgmcpbbneaa.Q
