/-
  A part of the proof of the claim that this folder bears.
  This text: CPlain.
-/
/-
  The plain machine of layer 13: events, what is right, clocks. No program in sight.
-/
set_option linter.unusedVariables false
set_option linter.unusedSimpArgs false
namespace Ck
abbrev Str := ByteArray
structure Evt where
  task : Int
  act : Str
  other : Int
  cell : Str
  deriving DecidableEq
instance : Inhabited Evt := ⟨⟨0, .empty, 0, .empty⟩⟩
def sFork : Str := ⟨#[102, 111, 114, 107]⟩
def sJoin : Str := ⟨#[106, 111, 105, 110]⟩
def sRead : Str := ⟨#[114, 101, 97, 100]⟩
def sWrite : Str := ⟨#[119, 114, 105, 116, 101]⟩
def sAdd : Str := ⟨#[97, 100, 100]⟩
def sGive : Str := ⟨#[103, 105, 118, 101]⟩
def sGet : Str := ⟨#[103, 101, 116]⟩
def isAcc (s : Str) : Bool := decide (s = sRead) || decide (s = sWrite) || decide (s = sAdd) || decide (s = sGive) || decide (s = sGet)
/-- The first give of a cell. -/
def firstGive (l : List Evt) (c : Str) : Nat := (l.findIdx? fun e => decide (e.act = sGive) && decide (e.cell = c)).getD l.length
def hasCell (g : List Str) (c : Str) : Bool := g.any fun x => decide (x = c)
/-- What has been seen: of each task whether it is joined, and the cells that were given. -/
structure Seen where
  joined : List Bool
  given : List Str
def okE (s : Seen) (e : Evt) : Bool :=
  if e.task < 0 ∨ (s.joined.length : Int) ≤ e.task ∨ s.joined.getD e.task.toNat true = true then false
  else if e.act = sFork then decide (e.other = s.joined.length) && decide (e.cell = (⟨#[]⟩ : ByteArray))
  else if e.act = sJoin then decide (e.cell = (⟨#[]⟩ : ByteArray)) && decide (0 ≤ e.other) && decide (e.other < s.joined.length) && decide (e.other ≠ e.task) && !(s.joined.getD e.other.toNat true)
  else if isAcc e.act = false ∨ e.other ≠ 0 ∨ e.cell = (⟨#[]⟩ : ByteArray) ∨ 40 < e.cell.size then false
  else !(decide (e.act = sGet) && !(hasCell s.given e.cell))
def after (s : Seen) (e : Evt) : Seen :=
  if e.act = sFork then ⟨s.joined ++ [false], s.given⟩
  else if e.act = sJoin then ⟨s.joined.set e.other.toNat true, s.given⟩
  else if e.act = sGive then ⟨s.joined, e.cell :: s.given⟩
  else s
def start : Seen := ⟨[false], []⟩
def seen (l : List Evt) : Seen := l.foldl after start
def okUpto (l : List Evt) : Nat → Prop
  | 0 => True
  | n + 1 => okUpto l n ∧ ∀ e, l[n]? = some e → okE (seen (l.take n)) e = true
def okB (l : List Evt) : Nat → Bool
  | 0 => true
  | n + 1 => okB l n && (match l[n]? with | some e => okE (Ck.seen (l.take n)) e | none => true)
theorem okB_iff (l : List Evt) : ∀ n, okB l n = true ↔ okUpto l n
  | 0 => by simp [okB, okUpto]
  | n + 1 => by
    simp only [okB, okUpto, Bool.and_eq_true, okB_iff l n]
    cases l[n]? <;> simp
def rightB (l : List Evt) : Bool := decide (l.length ≤ 2000) && okB l l.length

def many (xs : List Evt) : Nat := 1 + (xs.filter (fun e => decide (e.act = sFork))).length
def pairOf (d e : Evt) (x y : Str) : Bool := (decide (d.act = x) && decide (e.act = y)) || (decide (d.act = y) && decide (e.act = x))
def conflictB (d e : Evt) : Bool :=
  if d.task = e.task ∨ d.cell = (⟨#[]⟩ : ByteArray) ∨ d.cell ≠ e.cell then false
  else decide (d.act = sWrite) || decide (e.act = sWrite) || pairOf d e sAdd sRead || pairOf d e sGive sGive

def stepB (l : List Evt) (a b : Evt) (i : Nat) : Bool :=
  decide (a.task = b.task) || (decide (a.act = sFork) && (decide (a.other = b.task) || (decide (b.act = sJoin) && decide (b.other = a.other)))) || (decide (b.act = sJoin) && decide (b.other = a.task)) ||
    (decide (b.act = sGet) && decide (a.act = sGive) && decide (a.cell = b.cell) && decide (firstGive l b.cell = i))

end Ck
