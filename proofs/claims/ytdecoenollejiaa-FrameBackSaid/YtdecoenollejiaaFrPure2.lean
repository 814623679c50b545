/- Wrapped bytes in plain Lean: what is wrapped is told; what is cut off waits; what was turned is bad; other bytes but 165 are passed by. -/
import Derived.Test.YtdecoenollejiaaFrPure
import Derived.Test.YtdecoenollejiaaFlips
set_option linter.unusedVariables false
set_option linter.unusedSimpArgs false
namespace Go.Proofs.Ytdecoenollejiaa.FrMath
open CrcMath

/-- The bytes of a frame. -/
def Wrapped (l : List UInt8) (k : UInt8) (p : List UInt8) : Prop :=
  ∃ z, l = 165 :: 90 :: k :: UInt8.ofNat p.length :: (p ++ z) ∧ z.length = 2 ∧ p.length ≤ 64 ∧ rightL (k :: UInt8.ofNat p.length :: (p ++ z)) = true

theorem Wrapped.length {l : List UInt8} {k : UInt8} {p : List UInt8} (h : Wrapped l k p) : l.length = p.length + 6 := by
  obtain ⟨z, rfl, hz, _⟩ := h
  simp
  omega

theorem ofNat_len (n : Nat) (h : n ≤ 64) : (UInt8.ofNat n).toNat = n := by
  simp
  omega

theorem Wrapped.told {l : List UInt8} {k : UInt8} {p : List UInt8} (h : Wrapped l k p) (b : List UInt8) : run (l ++ b) = ⟨⟨k, p⟩ :: (run b).told, (run b).rest, (run b).bad⟩ := by
  obtain ⟨z, rfl, hz, hp, hr⟩ := h
  have hc : cnt ((165 :: 90 :: k :: UInt8.ofNat p.length :: (p ++ z)) ++ b) = p.length := by
    unfold cnt
    simp
    omega
  have htake : (((165 :: 90 :: k :: UInt8.ofNat p.length :: (p ++ z)) ++ b).drop 2).take (4 + p.length) = k :: UInt8.ofNat p.length :: (p ++ z) := by
    have e : ((165 :: 90 :: k :: UInt8.ofNat p.length :: (p ++ z)) ++ b).drop 2 = (k :: UInt8.ofNat p.length :: (p ++ z)) ++ b := rfl
    rw [e]
    exact List.take_left' (by simp; omega)
  have hs : stepL ((165 :: 90 :: k :: UInt8.ofNat p.length :: (p ++ z)) ++ b) = .told := by
    unfold stepL
    rw [if_neg (by simp), if_neg (by simp), if_neg (by simp), hc, if_neg (by omega), if_neg (by simp; omega), htake, if_pos hr]
  rw [run_told hs, hc]
  have hd : ((165 :: 90 :: k :: UInt8.ofNat p.length :: (p ++ z)) ++ b).drop (6 + p.length) = b := by
    exact List.drop_left' (by simp; omega)
  have hf : frameL ((165 :: 90 :: k :: UInt8.ofNat p.length :: (p ++ z)) ++ b) = ⟨k, p⟩ := by
    unfold frameL
    rw [hc]
    congr 1
    have e : ((165 :: 90 :: k :: UInt8.ofNat p.length :: (p ++ z)) ++ b).drop 4 = p ++ (z ++ b) := by simp
    rw [e]
    exact List.take_left' rfl
  rw [hd, hf]

theorem Wrapped.cut {l : List UInt8} {k : UInt8} {p : List UInt8} (h : Wrapped l k p) (c : Nat) (hc : c < l.length) : run (l.take c) = ⟨[], l.take c, 0⟩ := by
  apply run_stop
  have hl := h.length
  obtain ⟨z, rfl, hz, hp, hr⟩ := h
  match c, hc with
  | 0, _ => exact stepL_nil
  | 1, _ => simp [stepL]
  | 2, _ => simp [stepL]
  | 3, _ => simp [stepL]
  | c + 4, hc =>
    have hcnt : cnt ((165 :: 90 :: k :: UInt8.ofNat p.length :: (p ++ z)).take (c + 4)) = p.length := by
      unfold cnt
      simp
      omega
    unfold stepL
    rw [if_neg (by simp), if_neg (by simp), if_neg (by simp), hcnt, if_neg (by omega), if_pos (by rw [List.length_take]; omega)]

/-- Bits behind the first two bytes. -/
theorem bits_drop2 (l : List UInt8) (i : Nat) : bits (l.drop 2) i = bits l (i + 16) := by
  unfold bits
  rw [List.getD_eq_getElem?_getD, List.getD_eq_getElem?_getD, List.getElem?_drop, show 2 + i / 8 = (i + 16) / 8 by omega, show i % 8 = (i + 16) % 8 by omega]

theorem byte_of_bits {l m : List UInt8} (j : Nat) (h : ∀ i, i < 8 → bits l (8 * j + i) = bits m (8 * j + i)) : l.getD j 0 = m.getD j 0 := by
  apply UInt8.toNat_inj.1
  apply Nat.eq_of_testBit_eq
  intro i
  by_cases hi : i < 8
  · have := h (7 - i) (by omega)
    unfold bits at this
    rw [show (8 * j + (7 - i)) / 8 = j by omega, show 7 - (8 * j + (7 - i)) % 8 = i by omega] at this
    exact this
  · have e : ∀ x : UInt8, x.toNat.testBit i = false := fun x => Nat.testBit_lt_two_pow (Nat.lt_of_lt_of_le x.toNat_lt (Nat.pow_le_pow_right (by decide) (by omega : 8 ≤ i)))
    rw [e, e]

theorem Wrapped.turned {l : List UInt8} {k : UInt8} {p : List UInt8} (h : Wrapped l k p) (n pt kk : Nat) (hn : 32 ≤ n) (hk : kk ≤ 16) (ht : CrcMath.turned l n pt kk = true) : 0 < (run (flips l n pt kk)).bad := by
  have hll := h.length
  obtain ⟨z, hl, hz, hp, hr⟩ := h
  have hfl := flips_length l n pt kk
  have hb := flips_bits l n pt kk
  obtain ⟨i, hi, hne⟩ := flips_unlike l n pt kk ht
  generalize flips l n pt kk = m at hfl hb hne ⊢
  have hg : ∀ j, j < 4 → m.getD j 0 = l.getD j 0 := fun j hj => byte_of_bits j fun i hi => by
    apply Classical.byContradiction
    intro hne
    have := hb _ hne
    omega
  have h0 : m.getD 0 0 = 165 := by rw [hg 0 (by omega), hl]; rfl
  have h1 : m.getD 1 0 = 90 := by rw [hg 1 (by omega), hl]; rfl
  have h3 : m.getD 3 0 = UInt8.ofNat p.length := by rw [hg 3 (by omega), hl]; rfl
  have hcnt : cnt m = p.length := by
    unfold cnt
    rw [h3]
    exact ofNat_len _ hp
  obtain ⟨a, b, m', rfl⟩ : ∃ a b m', m = a :: b :: m' := by
    match m, hfl with
    | [], hfl => simp at hfl; omega
    | [a], hfl => simp at hfl; omega
    | a :: b :: m', _ => exact ⟨a, b, m', rfl⟩
  have ha : a = 165 := by simpa using h0
  have hbb : b = 90 := by simpa using h1
  subst ha; subst hbb
  have hlm : m'.length = p.length + 4 := by
    have : (165 :: 90 :: m').length = l.length := hfl
    rw [hll] at this
    simp at this
    omega
  have hneq : more 0xffff#16 (l.drop 2) ≠ more 0xffff#16 m' := by
    have e : m' = (165 :: 90 :: m').drop 2 := rfl
    rw [e]
    refine more_burst _ _ _ (by rw [List.length_drop, List.length_drop, hfl]) (n - 16) ?_ ?_ ⟨i - 16, ?_, ?_⟩
    · intro j hj
      rw [bits_drop2, bits_drop2]
      apply Classical.byContradiction
      intro hne
      have := hb (j + 16) (fun e => hne e.symm)
      omega
    · intro j hj
      rw [bits_drop2, bits_drop2]
      apply Classical.byContradiction
      intro hne
      have := hb (j + 16) (fun e => hne e.symm)
      omega
    · have := hb i hne
      rw [List.length_drop]
      omega
    · have := hb i hne
      rw [bits_drop2, bits_drop2, show i - 16 + 16 = i by omega]
      exact fun e => hne e.symm
  have hmore : more 0xffff#16 (l.drop 2) = 0#16 := by
    have e : l.drop 2 = k :: UInt8.ofNat p.length :: (p ++ z) := by rw [hl]; rfl
    rw [e]
    unfold rightL at hr
    simp only [Bool.and_eq_true, beq_iff_eq] at hr
    exact hr.2
  have hwrong : rightL m' = false := by
    unfold rightL
    rw [hmore] at hneq
    have : (more 0xffff#16 m' == 0#16) = false := by
      rw [beq_eq_false_iff_ne]
      exact fun e => hneq e.symm
    rw [this, Bool.and_false]
  have htake : ((165 :: 90 :: m').drop 2).take (4 + p.length) = m' := by
    show m'.take (4 + p.length) = m'
    exact List.take_of_length_le (by omega)
  have hs : stepL (165 :: 90 :: m') = .bad := by
    unfold stepL
    rw [if_neg (by simp), if_neg (by simp), if_neg (by simp; omega), hcnt, if_neg (by omega), if_neg (by simp; omega), htake, hwrong]
    simp
  rw [run_bad hs]
  exact Nat.succ_pos _

theorem run_nil : run [] = ⟨[], [], 0⟩ := run_stop stepL_nil

/-- A byte that is not 165 is passed by. -/
theorem run_other (x : UInt8) (l : List UInt8) (h : x ≠ 165) : run (x :: l) = run l := by
  have hs : stepL (x :: l) = .skip := by
    unfold stepL
    rw [if_neg (by simp [h]), if_pos (by cases l <;> simp [h])]
  rw [run_skip hs]
  rfl

theorem run_others : ∀ (a l : List UInt8), (∀ x ∈ a, x ≠ 165) → run (a ++ l) = run l
  | [], l, _ => rfl
  | x :: a, l, h => by
    rw [List.cons_append, run_other x _ (h x (by simp)), run_others a l (fun y hy => h y (by simp [hy]))]

end Go.Proofs.Ytdecoenollejiaa.FrMath
