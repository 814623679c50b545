/- Bits turned within 16 in a row: what is turned, and what the check sum makes of it, in plain Lean. -/
import Derived.Test.YtdecoenollejiaaCrc
namespace Go.Proofs.Ytdecoenollejiaa.CrcMath

/-- Bit j's byte alone. -/
def mask (j : Nat) : UInt8 := UInt8.ofNat (128 / 2 ^ (j % 8))
/-- One bit turned. -/
def flipBit (l : List UInt8) (j : Nat) : List UInt8 := l.set (j / 8) (l.getD (j / 8) 0 ^^^ mask j)

theorem flipBit_length (l : List UInt8) (j : Nat) : (flipBit l j).length = l.length := by unfold flipBit; rw [List.length_set]

theorem mask_bit (j i : Nat) : (mask j).toNat.testBit (7 - i % 8) = decide (i % 8 = j % 8) := by
  have h : ∀ a, a < 8 → ∀ b, b < 8 → (UInt8.ofNat (128 / 2 ^ a)).toNat.testBit (7 - b) = decide (b = a) := by decide
  exact h (j % 8) (Nat.mod_lt _ (by decide)) (i % 8) (Nat.mod_lt _ (by decide))

theorem bits_flip (l : List UInt8) (j i : Nat) (hj : j < 8 * l.length) : bits (flipBit l j) i = (bits l i ^^ decide (i = j)) := by
  unfold bits flipBit
  by_cases e : i / 8 = j / 8
  · rw [e]
    rw [List.getD_eq_getElem?_getD, List.getElem?_set_self (by omega)]
    rw [Option.getD_some, UInt8.toNat_xor, Nat.testBit_xor, mask_bit]
    congr 1
    rw [decide_eq_decide]
    omega
  · rw [List.getD_eq_getElem?_getD, List.getElem?_set_ne (fun h => e h.symm), ← List.getD_eq_getElem?_getD]
    have : ¬ i = j := fun h => e (by rw [h])
    simp [this]

/-- Behind k of the 16 bits. -/
def flips (l : List UInt8) (n p : Nat) : Nat → List UInt8
  | 0 => l
  | k + 1 => if n + k < 8 * l.length ∧ p.testBit (15 - k) = true then flipBit (flips l n p k) (n + k) else flips l n p k
/-- Was one of them turned? -/
def turned (l : List UInt8) (n p : Nat) : Nat → Bool
  | 0 => false
  | k + 1 => if n + k < 8 * l.length ∧ p.testBit (15 - k) = true then true else turned l n p k

theorem flips_length (l : List UInt8) (n p k : Nat) : (flips l n p k).length = l.length := by
  induction k with
  | zero => rfl
  | succ k ih =>
    unfold flips
    split
    · rw [flipBit_length, ih]
    · exact ih

theorem flips_yes {l : List UInt8} {n p k : Nat} (h : n + k < 8 * l.length) (hb : p.testBit (15 - k) = true) : flips l n p (k + 1) = flipBit (flips l n p k) (n + k) ∧ turned l n p (k + 1) = true := by
  rw [flips, turned, if_pos ⟨h, hb⟩, if_pos ⟨h, hb⟩]
  exact ⟨rfl, rfl⟩
theorem flips_no {l : List UInt8} {n p k : Nat} (hb : p.testBit (15 - k) = false) : flips l n p (k + 1) = flips l n p k ∧ turned l n p (k + 1) = turned l n p k := by
  have h : ¬ (n + k < 8 * l.length ∧ p.testBit (15 - k) = true) := by rw [hb]; simp
  rw [flips, turned, if_neg h, if_neg h]
  exact ⟨rfl, rfl⟩

/-- What is unlike lies in the first k of the 16 bits. -/
theorem flips_bits (l : List UInt8) (n p k i : Nat) : bits (flips l n p k) i ≠ bits l i → n ≤ i ∧ i < n + k ∧ i < 8 * l.length := by
  induction k with
  | zero => intro h; exact absurd rfl h
  | succ k ih =>
    intro h
    unfold flips at h
    split at h
    · rename_i hc
      rw [bits_flip _ _ _ (by rw [flips_length]; exact hc.1)] at h
      by_cases e : i = n + k
      · omega
      · have := ih (by simpa [e] using h)
        omega
    · have := ih h
      omega

theorem flips_same (l : List UInt8) (n p k : Nat) (h : turned l n p k = false) : flips l n p k = l := by
  induction k with
  | zero => rfl
  | succ k ih =>
    unfold turned at h
    unfold flips
    split at h
    · cases h
    · rename_i hc
      rw [if_neg hc]
      exact ih h

theorem flips_unlike (l : List UInt8) (n p k : Nat) (h : turned l n p k = true) : ∃ i, i < 8 * l.length ∧ bits (flips l n p k) i ≠ bits l i := by
  induction k with
  | zero => cases h
  | succ k ih =>
    unfold turned at h
    unfold flips
    split at h
    · rename_i hc
      refine ⟨n + k, hc.1, ?_⟩
      rw [if_pos hc, bits_flip _ _ _ (by rw [flips_length]; exact hc.1)]
      have e : bits (flips l n p k) (n + k) = bits l (n + k) := by
        apply Classical.byContradiction
        intro hne
        have := flips_bits l n p k (n + k) hne
        omega
      rw [e]
      simp
    · rename_i hc
      obtain ⟨i, hi, hne⟩ := ih h
      exact ⟨i, hi, by rw [if_neg hc]; exact hne⟩

/-- UNLIKE TEXTS HAVE UNLIKE SUMS, those alike like ones. -/
theorem flips_more (x : BitVec 16) (l : List UInt8) (n p k : Nat) (hk : k ≤ 16) : (more x l = more x (flips l n p k)) ↔ turned l n p k = false := by
  constructor
  · intro h
    apply Classical.byContradiction
    intro ht
    obtain ⟨i, hi, hne⟩ := flips_unlike l n p k (by simpa using ht)
    refine more_burst x l (flips l n p k) (flips_length l n p k).symm n ?_ ?_ ⟨i, hi, fun h => hne h.symm⟩ h
    · intro i hi
      apply Classical.byContradiction
      intro hne
      have := flips_bits l n p k i (fun h => hne h.symm)
      omega
    · intro i hi
      apply Classical.byContradiction
      intro hne
      have := flips_bits l n p k i (fun h => hne h.symm)
      omega
  · intro h
    rw [flips_same l n p k h]

end Go.Proofs.Ytdecoenollejiaa.CrcMath
