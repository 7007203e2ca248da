/-
  Tokens in plain Lean: bytes, places, what a scanner takes. No program in sight.
-/
import Derived.RowKit
namespace Go.Proofs.Ytjmffehffmmobaa.WP

def isL (c : Nat) : Bool := decide (97 ≤ c ∧ c ≤ 122)
def isD (c : Nat) : Bool := decide (48 ≤ c ∧ c ≤ 57)
def isB (c : Nat) : Bool := decide (c = 32 ∨ c = 10)
def isLD (c : Nat) : Bool := isL c || isD c
def isS (c : Nat) : Bool := decide (c = 43 ∨ c = 45 ∨ c = 42 ∨ c = 47 ∨ c = 40 ∨ c = 41 ∨ c = 44)

/-- Where the next byte stands. -/
def stepP (p : Nat × Nat) (c : UInt8) : Nat × Nat := if c.toNat = 10 then (p.1 + 1, 1) else (p.1, p.2 + 1)
def advP (p : Nat × Nat) (l : List UInt8) : Nat × Nat := l.foldl stepP p

/-- How many bytes at the begin are of a class. -/
def runL (p : Nat → Bool) : List UInt8 → Nat
  | [] => 0
  | c :: l => if p c.toNat then runL p l + 1 else 0

theorem runL_le (p : Nat → Bool) (l : List UInt8) : runL p l ≤ l.length := by
  induction l with
  | nil => exact Nat.le_refl _
  | cons c l ih => unfold runL; split <;> simp <;> omega

/-- A byte ahead; 0, where there is none. -/
def peekL (l : List UInt8) (n : Nat) : Nat := ((l[n]?).map (·.toNat)).getD 0

end Go.Proofs.Ytjmffehffmmobaa.WP
