/- Plain functions on lists of bytes that the lexer's calls come to; no program here. -/
namespace Go.Proofs.YtceldhkfidmfkaaDoor.Plain

/-- How many bytes at the head of a list are such. -/
def runL (p : Int → Bool) : List UInt8 → Nat
  | [] => 0
  | c :: l => if p (c.toNat : Int) then runL p l + 1 else 0

theorem runL_le (p : Int → Bool) (l : List UInt8) : runL p l ≤ l.length := by
  induction l with
  | nil => simp [runL]
  | cons c l ih => simp only [runL, List.length_cons]; split <;> omega

/-- All bytes ahead of k are such. -/
def allB (p : Int → Bool) (l : List UInt8) (k : Nat) : Prop := runL p (l.drop k) + k = runL p l

theorem allB_zero (p : Int → Bool) (l : List UInt8) : allB p l 0 := by simp [allB]
theorem allB_succ {p : Int → Bool} {l : List UInt8} {k : Nat} (hk : k < l.length) (h : allB p l k) (hp : p (l[k].toNat : Int) = true) : allB p l (k + 1) := by
  unfold allB at h ⊢
  rw [List.drop_eq_getElem_cons hk] at h
  simp only [runL, hp, if_true] at h
  omega
theorem allB_stop {p : Int → Bool} {l : List UInt8} {k : Nat} (hk : k < l.length) (h : allB p l k) (hp : p (l[k].toNat : Int) = false) : runL p l = k := by
  unfold allB at h
  rw [List.drop_eq_getElem_cons hk] at h
  simp [runL, hp] at h
  omega
theorem allB_end {p : Int → Bool} {l : List UInt8} (h : allB p l l.length) : runL p l = l.length := by
  unfold allB at h
  simp [runL] at h
  omega

/-- A digit. -/
def dg (c : Int) : Bool := decide (48 ≤ c) && decide (c ≤ 57)
/-- A letter. -/
def lt (c : Int) : Bool := (decide (65 ≤ c) && decide (c ≤ 90)) || (decide (97 ≤ c) && decide (c ≤ 122))
/-- What a word has. -/
def wd (c : Int) : Bool := lt c || dg c || decide (c = 36)

/-- How long the number at the head is, of what stands behind its first digits. -/
def numTail (n : Nat) : List UInt8 → Nat
  | [] => n
  | c :: r => if (c.toNat : Int) = 46 ∧ 0 < runL dg r then n + 1 + runL dg r else n
/-- How long the number at the head is. -/
def numL (l : List UInt8) : Nat := numTail (runL dg l) (l.drop (runL dg l))

theorem numL_le (l : List UInt8) : numL l ≤ l.length := by
  unfold numL
  have h := runL_le dg l
  cases e : l.drop (runL dg l) with
  | nil => simpa [numTail] using h
  | cons c r =>
    have hr := runL_le dg r
    have hlen : (l.drop (runL dg l)).length = r.length + 1 := by rw [e]; rfl
    rw [List.length_drop] at hlen
    simp only [numTail]
    split <;> omega

/-- What stands at the head of a text: a token (its kind, what it says, how long it is), or an error and where. -/
inductive Nx where
  | tok (kd : Int) (text : List UInt8) (n : Nat)
  | err (e : Int) (off : Nat)

/-- A token of so many bytes; of none: the byte that begins no token. -/
def tokN (kd : Int) (l : List UInt8) (n : Nat) : Nx := if n = 0 then .err 40 0 else .tok kd (l.take n) n

/-- How many bytes stand behind the opening quote up to the closing one, that one too. -/
def qLen : List UInt8 → Option Nat
  | [] => none
  | c :: r =>
    if (c.toNat : Int) = 34 then
      match r with
      | [] => some 1
      | d :: r' => if (d.toNat : Int) = 34 then (qLen r').map (· + 2) else some 1
    else (qLen r).map (· + 1)
/-- What the text says whose opening quote was passed. -/
def qSaid : List UInt8 → List UInt8
  | [] => []
  | c :: r =>
    if (c.toNat : Int) = 34 then
      match r with
      | [] => []
      | d :: r' => if (d.toNat : Int) = 34 then c :: qSaid r' else []
    else c :: qSaid r
/-- A byte that may not be. -/
def badB (c : Int) : Bool := decide (c < 32) || decide (126 < c)
/-- How many bytes at the head may be. -/
def okL (l : List UInt8) : Nat := runL (fun c => !badB c) l
/-- The text at whose opening quote a list begins (r: what stands behind that). -/
def qTok (r : List UInt8) : Nx :=
  match qLen r with
  | none => .err 41 0
  | some m => if okL r < m then .err 40 (okL r + 1) else .tok 2 (qSaid r) (m + 1)

/-- How long the first of some texts is that stands at the head; 0: none does. -/
def begL (l : List UInt8) : List (List UInt8) → Nat
  | [] => 0
  | t :: ts => if t.isPrefixOf l = true then t.length else begL l ts
def faultsL : List (List UInt8) := [[35, 68, 73, 86, 47, 48, 33], [35, 86, 65, 76, 85, 69, 33], [35, 82, 69, 70, 33], [35, 78, 85, 77, 33], [35, 78, 47, 65], [35, 67, 73, 82, 67, 76, 69, 33], [35, 76, 79, 78, 71, 33], [35, 65, 82, 71, 33]]
def pairsL : List (List UInt8) := [[60, 62], [60, 61], [62, 61]]
def singlesL : List UInt8 := [43, 45, 42, 47, 94, 38, 37, 40, 41, 44, 58, 33, 61, 60, 62]
/-- A mark by itself. -/
def single (c : Int) : Bool := singlesL.any fun b => decide ((b.toNat : Int) = c)
/-- How long the mark at the head is. -/
def markL (c : Int) (l : List UInt8) : Nat := if begL l pairsL = 0 then (if single c = true then 1 else 0) else begL l pairsL

/-- What stands at the head. -/
def nextS : List UInt8 → Nx
  | [] => .err 40 0
  | c :: r =>
    if dg (c.toNat : Int) = true then tokN 1 (c :: r) (numL (c :: r))
    else if (c.toNat : Int) = 34 then qTok r
    else if (lt (c.toNat : Int) || decide ((c.toNat : Int) = 36)) = true then tokN 3 (c :: r) (runL wd (c :: r))
    else if (c.toNat : Int) = 35 then tokN 4 (c :: r) (begL (c :: r) faultsL)
    else tokN 5 (c :: r) (markL (c.toNat : Int) (c :: r))

end Go.Proofs.YtceldhkfidmfkaaDoor.Plain
