/- Spans in plain Lean: what the program's package span computes. -/
import Derived.Test.YtehjfjdopeadfaaProg
set_option linter.unusedVariables false
set_option linter.unusedSimpArgs false
namespace Go.Proofs.Ytehjfjdopeadfaa

/-- An enclosure. -/
structure Sp where
  lo : Int
  hi : Int
  all : Bool
deriving DecidableEq, Inhabited

namespace SpMath

def whole : Sp := ⟨0, 0, true⟩
def fixed (n : Int) : Prop := -2147483647 ≤ n ∧ n ≤ 2147483647
instance (n : Int) : Decidable (fixed n) := by unfold fixed; infer_instance

/-- A span of two ends within the bounds. -/
def Fin (s : Sp) : Prop := s.all = false ∧ -2147483647 ≤ s.lo ∧ s.lo ≤ s.hi ∧ s.hi ≤ 2147483647
instance (s : Sp) : Decidable (Fin s) := by unfold Fin; infer_instance

def right (s : Sp) : Sp := if Fin s then s else whole

theorem right_fin {s : Sp} (h : Fin s) : right s = s := if_pos h
theorem right_not {s : Sp} (h : ¬ Fin s) : right s = whole := if_neg h
theorem whole_not : ¬ Fin whole := by decide
theorem right_cases (s : Sp) : (Fin s ∧ right s = s) ∨ (¬ Fin s ∧ right s = whole) := by
  by_cases h : Fin s
  · exact .inl ⟨h, right_fin h⟩
  · exact .inr ⟨h, right_not h⟩
theorem right_right (s : Sp) : right (right s) = right s := by
  rcases right_cases s with ⟨h, e⟩ | ⟨h, e⟩
  · rw [e, e]
  · rw [e, right_not whole_not]

def made (lo hi : Int) : Sp := right ⟨lo, hi, false⟩
def of (a b : Int) : Sp := made (min a b) (max a b)
def has (s : Sp) (n : Int) : Bool := (right s).all || (decide ((right s).lo ≤ n) && decide (n ≤ (right s).hi))
def inn (x y : Sp) : Bool := decide (right y = whole) || (decide (right x ≠ whole) && decide ((right y).lo ≤ (right x).lo) && decide ((right x).hi ≤ (right y).hi))
def join (x y : Sp) : Sp := if right x = whole ∨ right y = whole then whole else made (min (right x).lo (right y).lo) (max (right x).hi (right y).hi)
def meet (x y : Sp) : Sp × Bool :=
  if right x = whole then (right y, true) else if right y = whole then (right x, true)
  else if max (right x).lo (right y).lo > min (right x).hi (right y).hi then (⟨0, 0, false⟩, false) else (made (max (right x).lo (right y).lo) (min (right x).hi (right y).hi), true)
def mid (s : Sp) : Int := ((right s).lo + (right s).hi) / 2
def rad (s : Sp) : Int := if (right s).all then 2147483647 else (right s).hi - mid (right s)
def both (x y : Sp) (f : Sp → Sp → Sp) : Sp := if Fin x ∧ Fin y then f x y else whole
def addF (x y : Sp) : Sp := made (x.lo + y.lo) (x.hi + y.hi)
def subF (x y : Sp) : Sp := made (x.lo - y.hi) (x.hi - y.lo)
def lo4 (a b c d : Int) : Int := min (min (min a b) c) d
def hi4 (a b c d : Int) : Int := max (max (max a b) c) d
def mulF (x y : Sp) : Sp := made (lo4 (x.lo * y.lo) (x.lo * y.hi) (x.hi * y.lo) (x.hi * y.hi) / 1048576) (-(-(hi4 (x.lo * y.lo) (x.lo * y.hi) (x.hi * y.lo) (x.hi * y.hi)) / 1048576))
/-- The greatest whole number not above a quotient. -/
def fl (a b : Int) : Int := if 0 < b then a / b else (-a) / (-b)
def divF (x y : Sp) : Sp := if y.lo ≤ 0 ∧ 0 ≤ y.hi then whole else
  made (lo4 (fl (x.lo * 1048576) y.lo) (fl (x.lo * 1048576) y.hi) (fl (x.hi * 1048576) y.lo) (fl (x.hi * 1048576) y.hi)) (-(lo4 (fl (-x.lo * 1048576) y.lo) (fl (-x.lo * 1048576) y.hi) (fl (-x.hi * 1048576) y.lo) (fl (-x.hi * 1048576) y.hi)))
def add (x y : Sp) : Sp := both x y addF
def sub (x y : Sp) : Sp := both x y subF
def mul (x y : Sp) : Sp := both x y mulF
def div (x y : Sp) : Sp := both x y divF
def neg (x : Sp) : Sp := sub (of 0 0) x
def sqr (x : Sp) : Sp := if Fin x ∧ (mul x x).all = false ∧ x.lo ≤ 0 ∧ 0 ≤ x.hi then { mul x x with lo := 0 } else mul x x
end SpMath
end Go.Proofs.Ytehjfjdopeadfaa
