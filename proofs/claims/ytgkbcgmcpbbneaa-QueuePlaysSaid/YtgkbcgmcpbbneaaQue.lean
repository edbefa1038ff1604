/- Entries in memory, what a call keeps, a queue in memory, the order of entries, the heap as lists. -/
import Derived.Test.YtgkbcgmcpbbneaaWor
namespace Go.Proofs.Ytgkbcgmcpbbneaa.Q
open Go Go.RowKit Go.Maps Go.Proofs.YtgkbcgmcpbbneaaW.PrintWords Go.Proofs.YtgkbcgmcpbbneaaW.PrintLast Go.Proofs.YtgkbcgmcpbbneaaW.PrintMore
set_option maxRecDepth 100000
set_option linter.unusedVariables false
set_option linter.unusedSimpArgs false

structure S63 where
  f0 : Int
  f1 : Int
  f2 : S30
instance : DecidableEq S63 := fun a b =>
  if h : a.f0 = b.f0 ∧ a.f1 = b.f1 ∧ a.f2 = b.f2 then isTrue (by cases a; cases b; simp_all) else isFalse (fun e => h (by subst e; exact ⟨rfl, rfl, rfl⟩))
def z63 : S63 := ⟨(0 : Int), (0 : Int), z30⟩
abbrev ec (x : S63) : List Value := [.int .i64 x.f0, .int .i64 x.f1, .int .i64 x.f2.f0, .int .i64 x.f2.f1, .int .i64 x.f2.f2]
def k63 : Kd S63 := Kd.iso (Kd.pair (Kd.int .i64) (Kd.pair (Kd.int .i64) k30)) (fun x : S63 => (x.f0, x.f1, x.f2))
theorem info63 : (Try.prog.info? 63).map (fun i => (i.zero, i.size, i.bytes)) = some (some (.agg #[.int .i64 0, .int .i64 0, .int .i64 0, .int .i64 0, .int .i64 0]), 5, 40) := by kernel_rfl
theorem k63_open {w : World} {x : S63} {cs : List Value} (h : k63.K w x cs) : cs = ec x := by
  obtain ⟨_, _, rfl, rfl, ⟨_, _, rfl, rfl, s1⟩⟩ := h
  obtain rfl := k30_open s1
  exact rfl
theorem k63_openM {w : World} {base : Nat} {ok : Nat → Prop} {x : S63} {cs : List Value} (h : k63.M w base ok x cs) : cs = ec x := by
  obtain ⟨_, _, rfl, rfl, ⟨_, _, rfl, rfl, s1⟩⟩ := h
  obtain rfl := k30_openM s1
  exact rfl
theorem k63_mkM (w : World) (base : Nat) (ok : Nat → Prop) (x : S63) : k63.M w base ok x (ec x) := ⟨[.int .i64 x.f0], [.int .i64 x.f1, .int .i64 x.f2.f0, .int .i64 x.f2.f1, .int .i64 x.f2.f2], rfl, rfl, ⟨[.int .i64 x.f1], [.int .i64 x.f2.f0, .int .i64 x.f2.f1, .int .i64 x.f2.f2], rfl, rfl, k30_mkM w base ok x.f2⟩⟩
abbrev g63 (xs : List S63) (i : Nat) : S63 := xs.getD i z63
theorem at63 {w : World} {A : Option Addr} {n : Nat} {xs : List S63} (h : Kd.C k63 w A n xs) (i : Nat) (h1 : i < n) : ∃ ad, A = some ad ∧ ∀ j u, (ec (g63 xs i))[j]? = some u → w.cell? (ad.add (i * 5 + j)) = some u := by
  obtain ⟨ad, c, e, _, hK, hc0⟩ := Kd.C_get h z63 (i : Int) (by omega) (by omega)
  obtain rfl := k63_open hK
  refine ⟨ad, e, fun j u hu => ?_⟩
  have := hc0 j u (by simpa using hu)
  exact this

/-! ### what a call keeps -/
structure Kp (w w' : World) (S : Nat → Prop) : Prop where
  os : w'.os = w.os
  tape : w'.tape = w.tape
  output : w'.output = w.output
  size : w.heap.size ≤ w'.heap.size
  block : ∀ k, k < w.heap.size → ¬ S k → w'.heap[k]? = w.heap[k]?
section
variable {w w' w2 : World} {S S2 : Nat → Prop}
theorem Kp.refl (w : World) (S : Nat → Prop) : Kp w w S := ⟨rfl, rfl, rfl, Nat.le_refl _, fun _ _ _ => rfl⟩
theorem Kp.of_below (h : Below w.heap.size w w') (S : Nat → Prop) : Kp w w' S := ⟨h.os, h.tape, h.output, h.size, fun k hk _ => h.block k hk⟩
theorem Kp.of_grown {row : Option Nat} (h : w.grownBy w' row) (hS : ∀ k, row = some k → S k) : Kp w w' S := ⟨h.os, h.tape, h.output, h.size, fun k hk hn => h.block k hk (fun e => hn (hS k e.symm))⟩
theorem Kp.then_ (h : Kp w w' S) (k : Kp w' w2 S2) (hs : ∀ k, S2 k → S k ∨ w.heap.size ≤ k) : Kp w w2 S :=
  ⟨k.os.trans h.os, k.tape.trans h.tape, k.output.trans h.output, Nat.le_trans h.size k.size, fun i hi hn => (k.block i (Nat.lt_of_lt_of_le hi h.size) (fun h2 => (hs i h2).elim hn (fun h3 => by omega))).trans (h.block i hi hn)⟩
theorem Kp.mono (h : Kp w w' S) (hs : ∀ k, S k → S2 k) : Kp w w' S2 := ⟨h.os, h.tape, h.output, h.size, fun i hi hn => h.block i hi (fun hk => hn (hs i hk))⟩
theorem Kp.below (h : Kp w w' S) {B : Nat} (hB : B ≤ w.heap.size) (hS : ∀ k, S k → B ≤ k) : Below B w w' := ⟨h.os, h.tape, h.output, h.size, fun k hk => h.block k (by omega) (fun hs => by have := hS k hs; omega)⟩
theorem Kp.drew (h : Kp w w' S) : Kp w w'.drew S := ⟨h.os, h.tape, h.output, h.size, h.block⟩
theorem Kp.drewN (h : Kp w w' S) (n : Nat) : Kp w (w'.drewN n) S := ⟨h.os, h.tape, h.output, h.size, h.block⟩
theorem Kp.alloc (h : Kp w w' S) (o : Obj) : Kp w (w'.alloc o) S := h.then_ (Kp.of_grown (S := fun _ => False) (World.grownBy_alloc w' o none) (fun k hk => by cases hk)) (fun k hk => hk.elim)
theorem Kp.setCell (h : Kp w w' S) {p : Addr} (hp : S p.block ∨ w.heap.size ≤ p.block) (u : Value) : Kp w (w'.setCell p u) S :=
  h.then_ (S2 := fun k => k = p.block) ⟨rfl, rfl, rfl, by simp [World.setCell], fun i _ hn => Below.heap_setCell w' p u i hn⟩ (fun k hk => by rw [hk]; exact hp)
theorem Kp.blk (h : Kp w w' S) {b : Nat} {o : Obj} (hb : w.heap[b]? = some o) (hn : ¬ S b) : w'.heap[b]? = some o := (h.block b (blk_lt hb) hn).trans hb
theorem Kp.R (h : Kp w w' S) {α : Type} {d : Kd α} {e base : Nat} {ok : Nat → Prop} {v : Value} {xs : List α} (hr : d.R e w base ok v xs) (hne : ∀ k, ok k → ¬ S k) : d.R e w' base ok v xs := Kd.R_step hr (fun k ho hlt => h.block k hlt (hne k ho))
end

/-! ### the queue -/
abbrev qcs (mb : Nat) (vs vh : Value) : Array Value := #[.map (some mb), vs, vh, .func (.func 28) #[] #[]]
/-- The queue in block qb: the map in block mb reads L; vs: the areas seen; vh: the heap's row. All its blocks are in F. -/
structure QuAt (w : World) (F : Nat → Prop) (qb mb : Nat) (vs vh : Value) (L : List Wt) (sn : List S46) (hp : List S63) : Prop where
  blk : w.heap[qb]? = some (.cells (qcs mb vs vh) 61 (0, 0))
  map : MapAt w mb L
  seen : Kd.R k46 46 w 0 F vs sn
  heap : Kd.R k63 63 w 0 F vh hp
  fq : F qb
  fm : F mb
def Qu (w : World) (F : Nat → Prop) (qb : Nat) (L : List Wt) (sn : List S46) (hp : List S63) : Prop := ∃ mb vs vh, QuAt w F qb mb vs vh L sn hp
section
variable {w w' : World} {F F2 : Nat → Prop} {qb mb : Nat} {vs vh : Value} {L : List Wt} {sn : List S46} {hp : List S63}
theorem QuAt.move (h : QuAt w F qb mb vs vh L sn hp) (hm : ∀ k, F k → k < w.heap.size → w'.heap[k]? = w.heap[k]?) : QuAt w' F qb mb vs vh L sn hp :=
  ⟨(hm qb h.fq (blk_lt h.blk)).trans h.blk, h.map.move (hm mb h.fm h.map.lt), Kd.R_step h.seen hm, Kd.R_step h.heap hm, h.fq, h.fm⟩
theorem QuAt.mono (h : QuAt w F qb mb vs vh L sn hp) (hF : ∀ k, F k → F2 k) : QuAt w F2 qb mb vs vh L sn hp := ⟨h.blk, h.map, Kd.R_mono h.seen hF, Kd.R_mono h.heap hF, hF _ h.fq, hF _ h.fm⟩
theorem QuAt.bound (h : QuAt w F qb mb vs vh L sn hp) : QuAt w (fun k => F k ∧ k < w.heap.size) qb mb vs vh L sn hp :=
  ⟨h.blk, h.map, Kd.R_mono (Kd.R_bound h.seen) (fun k hk => ⟨hk.1, hk.2.2.1⟩), Kd.R_mono (Kd.R_bound h.heap) (fun k hk => ⟨hk.1, hk.2.2.1⟩), ⟨h.fq, blk_lt h.blk⟩, ⟨h.fm, h.map.lt⟩⟩
theorem Qu.move (h : Qu w F qb L sn hp) (hm : ∀ k, F k → k < w.heap.size → w'.heap[k]? = w.heap[k]?) : Qu w' F qb L sn hp := by
  obtain ⟨mb, vs, vh, h⟩ := h; exact ⟨mb, vs, vh, h.move hm⟩
theorem Qu.mono (h : Qu w F qb L sn hp) (hF : ∀ k, F k → F2 k) : Qu w F2 qb L sn hp := by
  obtain ⟨mb, vs, vh, h⟩ := h; exact ⟨mb, vs, vh, h.mono hF⟩
theorem Qu.bound (h : Qu w F qb L sn hp) : Qu w (fun k => F k ∧ k < w.heap.size) qb L sn hp := by
  obtain ⟨mb, vs, vh, h⟩ := h; exact ⟨mb, vs, vh, h.bound⟩
theorem Qu.below (h : Qu w F qb L sn hp) (hb : Below w.heap.size w w') : Qu w' F qb L sn hp := h.move (fun k _ hk => hb.block k hk)
theorem Qu.uniq (h : Qu w F qb L sn hp) : Uniq L := by obtain ⟨mb, vs, vh, h⟩ := h; exact h.map.uniq
theorem Qu.wf (h : Qu w F qb L sn hp) : WfL L := by obtain ⟨mb, vs, vh, h⟩ := h; exact h.map.wf
theorem QuAt.ne (h : QuAt w F qb mb vs vh L sn hp) : mb ≠ qb := by
  obtain ⟨es, clock, hb⟩ := h.map.obj
  rintro rfl
  rw [h.blk] at hb
  cases hb
theorem R_ne_map {α : Type} {d : Kd α} {e base : Nat} {ok : Nat → Prop} {v : Value} {xs : List α} (h : d.R e w base ok v xs) (hm : MapAt w mb L) : v.ownBlock ≠ some mb := fun he => by
  obtain ⟨cells, hc⟩ := Kd.R_typed h mb he
  obtain ⟨es, clock, hb⟩ := hm.obj
  rw [hb] at hc
  cases hc
end

/-! ### the order of entries -/
def ltC (a b : S30) : Bool := decide (a.f0 < b.f0) || (decide (a.f0 = b.f0) && (decide (a.f1 < b.f1) || (decide (a.f1 = b.f1) && decide (a.f2 < b.f2))))
def ltE (a b : S63) : Bool := decide (a.f0 < b.f0) || (decide (a.f0 = b.f0) && (decide (a.f1 < b.f1) || (decide (a.f1 = b.f1) && ltC a.f2 b.f2)))
def ordE (a b : S63) : Int := if ltE a b then -1 else if ltE b a then 1 else 0
theorem ltC_irr (a : S30) : ltC a a = false := by simp [ltC]
theorem ltC_trans {a b c : S30} (h : ltC a b = true) (k : ltC b c = true) : ltC a c = true := by
  simp only [ltC, Bool.or_eq_true, Bool.and_eq_true, decide_eq_true_eq] at *
  omega
theorem ltC_tri {a b : S30} (h : ltC a b = false) (k : ltC b a = false) : a = b := by
  cases a; cases b
  simp only [ltC, Bool.or_eq_false_iff, Bool.and_eq_false_iff, decide_eq_false_iff_not, S30.mk.injEq] at *
  omega
theorem ltE_irr (a : S63) : ltE a a = false := by simp [ltE, ltC_irr]
theorem ltE_trans {a b c : S63} (h : ltE a b = true) (k : ltE b c = true) : ltE a c = true := by
  simp only [ltE, ltC, Bool.or_eq_true, Bool.and_eq_true, decide_eq_true_eq] at *
  omega
theorem ltE_tri {a b : S63} (h : ltE a b = false) (k : ltE b a = false) : a = b := by
  obtain ⟨a0, a1, ⟨a2, a3, a4⟩⟩ := a; obtain ⟨b0, b1, ⟨b2, b3, b4⟩⟩ := b
  simp only [ltE, ltC, Bool.or_eq_false_iff, Bool.and_eq_false_iff, decide_eq_false_iff_not, S63.mk.injEq, S30.mk.injEq] at *
  omega
theorem ltE_asymm {a b : S63} (h : ltE a b = true) : ltE b a = false := by
  cases k : ltE b a with
  | false => rfl
  | true => have := ltE_trans h k; rw [ltE_irr] at this; cases this
theorem ordE_neg {a b : S63} : ordE a b < 0 ↔ ltE a b = true := by
  unfold ordE
  cases h : ltE a b <;> cases k : ltE b a <;> simp
theorem ordE_le {a b : S63} : ordE a b ≤ 0 ↔ ltE b a = false := by
  unfold ordE
  cases h : ltE a b with
  | true => rw [ltE_asymm h]; simp
  | false => cases k : ltE b a <;> simp
theorem before_f (a b : S30) : place_Before.f a.f0 a.f1 a.f2 b.f0 b.f1 b.f2 = some (ltC a b) := by
  unfold place_Before.f ltC
  by_cases h0 : a.f0 = b.f0
  · by_cases h1 : a.f1 = b.f1
    · simp [h0, h1]
    · simp [h0, h1]
  · simp [h0]
theorem compare_f (a b : Int) : cmp_Compare_int.f a b = some (if a < b then -1 else if b < a then 1 else 0) := by
  unfold cmp_Compare_int.f cmp_isNaN_int.f
  simp
  split
  · rfl
  · split <;> rfl
theorem order_f (a b : S63) : queue_order.f a.f0 a.f1 a.f2.f0 a.f2.f1 a.f2.f2 b.f0 b.f1 b.f2.f0 b.f2.f1 b.f2.f2 = some (ordE a b) := by
  unfold queue_order.f ordE ltE
  rw [before_f, before_f, compare_f, compare_f]
  by_cases h0 : a.f0 = b.f0
  · by_cases h1 : a.f1 = b.f1
    · cases h : ltC a.f2 b.f2 <;> cases k : ltC b.f2 a.f2 <;> simp [h0, h1, h, k]
    · simp only [h0, if_true, h1, if_false, Option.bind_some]
      have h1' : ¬ b.f1 = a.f1 := fun e => h1 e.symm
      simp only [h1', decide_false, Bool.false_and, Bool.or_false, Int.lt_irrefl, decide_true, Bool.true_and, Bool.false_or, decide_eq_true_eq]
  · simp only [h0, if_false, Option.bind_some]
    have h0' : ¬ b.f0 = a.f0 := fun e => h0 e.symm
    simp only [h0', decide_false, Bool.false_and, Bool.or_false, decide_eq_true_eq]

/-! ### the heap, as lists -/
def swp (l : List S63) (i j : Nat) : List S63 := (l.set i (g63 l j)).set j (g63 l i)
def upH : Nat → List S63 → Nat → List S63
  | 0, l, _ => l
  | f + 1, l, i => if i = 0 then l else if ordE (g63 l ((i - 1) / 2)) (g63 l i) ≤ 0 then l else upH f (swp l ((i - 1) / 2) i) ((i - 1) / 2)
def pushH (l : List S63) (x : S63) : List S63 := upH (l.length + 1) (l ++ [x]) l.length
def least1 (l : List S63) (i : Nat) : Nat := if 2 * i + 1 < l.length ∧ ordE (g63 l (2 * i + 1)) (g63 l i) < 0 then 2 * i + 1 else i
def least2 (l : List S63) (i : Nat) : Nat := if 2 * i + 2 < l.length ∧ ordE (g63 l (2 * i + 2)) (g63 l (least1 l i)) < 0 then 2 * i + 2 else least1 l i
def downH : Nat → List S63 → Nat → List S63
  | 0, l, _ => l
  | f + 1, l, i => if least2 l i = i then l else downH f (swp l (least2 l i) i) (least2 l i)
def popH (l : List S63) : List S63 := downH (l.length + 1) ((l.set 0 (g63 l (l.length - 1))).take (l.length - 1)) 0
end Go.Proofs.Ytgkbcgmcpbbneaa.Q
