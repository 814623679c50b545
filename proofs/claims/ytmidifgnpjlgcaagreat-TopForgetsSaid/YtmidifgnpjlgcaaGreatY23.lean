/- The texts Te, Pa, Qa, Qb, Qc of the walk of the law and of all that it calls, in one file. No condition. -/
import Derived.Test.YtmidifgnpjlgcaaGreatY16
/- Plain: what Solve finds costs no more than what it began from. -/
set_option linter.unusedVariables false
set_option linter.unusedSimpArgs false
namespace Go.Proofs.YtmidifgnpjlgcaaGreat
open Go.RowKit

theorem raiseP_le (n : Nat) (rs : List Rw) : ∀ (k r : Nat) (z : Rz), cost rs (raiseP n rs k r z).1.X ≤ cost rs z.X
  | 0, _, z => Int.le_refl _
  | k + 1, r, z => by
    rw [raiseP]
    split
    · exact raiseP_le n rs k (r + 1) z
    · rename_i ds _
      simp only []
      split
      · exact Int.le_refl _
      · split
        · exact raiseP_le n rs k (r + 1) _
        · split
          · rename_i h
            exact Int.le_of_lt h
          · exact raiseP_le n rs k (r + 1) _
theorem solveP_le (n : Nat) (rs : List Rw) (rounds raises : Nat) (flat : Int) : ∀ (f : Nat) (z : Rz), cost rs (solveP n rs rounds raises flat f z).X ≤ cost rs z.X
  | 0, z => Int.le_refl _
  | f + 1, z => by
    rw [solveP]
    split
    · exact Int.le_refl _
    · split
      · exact Int.le_refl _
      · have h := raiseP_le n rs (raises + 1) 0 { z with st := 5 }
        simp only []
        split
        · exact Int.le_trans (solveP_le n rs rounds raises flat f _) h
        · exact h
/-- What is found is not more than what it began from. -/
theorem solveP_not (n : Nat) (rs : List Rw) (rounds raises : Nat) (flat : Int) (f : Nat) (xs : List Int) : decide (cost rs xs < cost rs (solveP n rs rounds raises flat f ⟨xs, 0, 0, 0⟩).X) = false :=
  decide_eq_false (Int.not_lt.2 (solveP_le n rs rounds raises flat f ⟨xs, 0, 0, 0⟩))
/-- The list that Solve tells is as long as the one that it began from. -/
theorem raiseP_len (n : Nat) (rs : List Rw) : ∀ (k r : Nat) (z : Rz), (raiseP n rs k r z).1.X.length = z.X.length
  | 0, _, z => rfl
  | k + 1, r, z => by
    rw [raiseP]
    split
    · exact raiseP_len n rs k (r + 1) z
    · simp only []
      split
      · rfl
      · split
        · exact raiseP_len n rs k (r + 1) _
        · split
          · simp [mvP]
          · exact raiseP_len n rs k (r + 1) _
theorem solveP_len (n : Nat) (rs : List Rw) (rounds raises : Nat) (flat : Int) : ∀ (f : Nat) (z : Rz), (solveP n rs rounds raises flat f z).X.length = z.X.length
  | 0, z => rfl
  | f + 1, z => by
    rw [solveP]
    split
    · rfl
    · split
      · rfl
      · have h := raiseP_len n rs (raises + 1) 0 { z with st := 5 }
        simp only []
        split
        · exact (solveP_len n rs rounds raises flat f _).trans h
        · exact h
/-- Its numbers are within what a state has. -/
theorem raiseP_sb (n : Nat) (rs : List Rw) : ∀ (k r : Nat) (z : Rz), stateB z.X = true → stateB (raiseP n rs k r z).1.X = true
  | 0, _, z => fun h => h
  | k + 1, r, z => fun h => by
    rw [raiseP]
    split
    · exact raiseP_sb n rs k (r + 1) z h
    · simp only []
      split
      · exact h
      · split
        · exact raiseP_sb n rs k (r + 1) _ h
        · rename_i hs
          split
          · exact (Bool.not_eq_false _).mp hs
          · exact raiseP_sb n rs k (r + 1) _ h
theorem solveP_sb (n : Nat) (rs : List Rw) (rounds raises : Nat) (flat : Int) : ∀ (f : Nat) (z : Rz), stateB z.X = true → stateB (solveP n rs rounds raises flat f z).X = true
  | 0, z => fun h => h
  | f + 1, z => fun h => by
    rw [solveP]
    split
    · exact h
    · split
      · exact h
      · have h := raiseP_sb n rs (raises + 1) 0 { z with st := 5 } h
        simp only []
        split
        · exact solveP_sb n rs rounds raises flat f _ h
        · exact h
end Go.Proofs.YtmidifgnpjlgcaaGreat
/- Plain: sweeping a matrix whose steps are told by tables; what Step finds then. -/
set_option linter.unusedVariables false
set_option linter.unusedSimpArgs false
namespace Go.Proofs.YtmidifgnpjlgcaaGreat
open Go.RowKit

theorem sumTo_nil {f : Nat → Int} : ∀ n, (∀ j, j < n → f j = 0) → sumTo f n = 0
  | 0, _ => rfl
  | n + 1, h => by
    show sumTo f n + f n = 0
    rw [sumTo_nil n (fun j hj => h j (by omega)), h n (by omega)]
    rfl
theorem sumTo_one {f : Nat → Int} {i : Nat} : ∀ n, i < n → (∀ j, j < n → j ≠ i → f j = 0) → sumTo f n = f i
  | n + 1, hi, h => by
    show sumTo f n + f n = f i
    by_cases e : i = n
    · subst e
      rw [sumTo_nil i (fun j hj => h j (by omega) (by omega)), Int.zero_add]
    · rw [sumTo_one n (by omega) (fun j hj => h j (by omega)), h n (by omega) (by omega), Int.add_zero]
theorem sumTo_mul (c : Int) (f : Nat → Int) : ∀ n, sumTo (fun j => c * f j) n = c * sumTo f n
  | 0 => by show (0 : Int) = c * 0; omega
  | n + 1 => by
    show sumTo (fun j => c * f j) n + c * f n = c * (sumTo f n + f n)
    rw [sumTo_mul c f n, Int.mul_add]
theorem sumTo_add (f g : Nat → Int) : ∀ n, sumTo (fun j => f j + g j) n = sumTo f n + sumTo g n
  | 0 => rfl
  | n + 1 => by
    show sumTo (fun j => f j + g j) n + (f n + g n) = (sumTo f n + f n) + (sumTo g n + g n)
    rw [sumTo_add f g n]
    omega
theorem sumTo_swap (f : Nat → Nat → Int) (m : Nat) : ∀ n, sumTo (fun i => sumTo (fun j => f i j) m) n = sumTo (fun j => sumTo (fun i => f i j) n) m
  | 0 => (sumTo_nil m (fun j _ => rfl)).symm
  | n + 1 => by
    show sumTo (fun i => sumTo (fun j => f i j) m) n + sumTo (fun j => f n j) m = sumTo (fun j => sumTo (fun i => f i j) n + f n j) m
    rw [sumTo_swap f m n, ← sumTo_add]
theorem sum_step {s f g h : Nat → Int} {p q l : Int} : ∀ m, (∀ j, j < m → p * f j - q * g j = h j * l) → p * sumTo (fun j => s j * f j) m - q * sumTo (fun j => s j * g j) m = sumTo (fun j => s j * h j) m * l
  | 0, _ => by show p * 0 - q * 0 = 0 * l; omega
  | m + 1, H => by
    have ih := sum_step (s := s) m (fun j hj => H j (by omega))
    have e := H m (by omega)
    show p * (sumTo (fun j => s j * f j) m + s m * f m) - q * (sumTo (fun j => s j * g j) m + s m * g m) = (sumTo (fun j => s j * h j) m + s m * h m) * l
    generalize sumTo (fun j => s j * f j) m = a at *
    generalize sumTo (fun j => s j * g j) m = b at *
    generalize sumTo (fun j => s j * h j) m = c at *
    grind

def lastT (T : Nat → Nat → Nat → Int) : Nat → Int
  | 0 => 1
  | k + 1 => T k k k
/-- The tables of the steps. -/
structure Tabs (n : Nat) (T : Nat → Nat → Nat → Int) : Prop where
  piv : ∀ k, k < n → 0 < T k k k
  row : ∀ k j, k < n → j < n → T (k + 1) k j = T k k j
  off : ∀ k i j, k < n → i < n → j < n → i ≠ k → T k k k * T k i j - T k i k * T k k j = T (k + 1) i j * lastT T k
  done : ∀ i j, i < n → j < n → T n i j = if i = j then T n (n - 1) (n - 1) else 0
  sym : ∀ i j, i < n → j < n → T 0 i j = T 0 j i
theorem lastT_pos {n : Nat} {T : Nat → Nat → Nat → Int} (h : Tabs n T) : ∀ k, k < n → lastT T k ≠ 0
  | 0, _ => by show (1 : Int) ≠ 0; decide
  | k + 1, hk => by have := h.piv k (by omega); show T k k k ≠ 0; omega
theorem Tabs.go {n : Nat} {T : Nat → Nat → Nat → Int} (h : Tabs n T) (m : Nat) (hm : m ≤ n) (s : Nat → Int) : ∀ r k M, k + r = m → (∀ i j, i < m → j < m → M i j = T k i j) → (∀ i, i < m → M i m = sumTo (fun j => s j * T k i j) m) →
    ∃ M', swGo m r k (lastT T k) false M = some (M', false) ∧ (∀ i j, i < m → j < m → M' i j = T m i j) ∧ ∀ i, i < m → M' i m = sumTo (fun j => s j * T m i j) m
  | 0, k, M, hk, h1, h2 => by
    obtain rfl : k = m := by omega
    exact ⟨M, rfl, h1, h2⟩
  | r + 1, k, M, hk, h1, h2 => by
    have hkm : k < m := by omega
    have hp : pivF M k (m - k) k = k := by
      rw [show m - k = r + 1 by omega, pivF, if_neg (by rw [h1 k k hkm hkm]; have := h.piv k (by omega); omega)]
    have hl := lastT_pos h k (by omega)
    rw [swGo, hp, if_neg (by omega), if_pos rfl]
    have e : M k k = lastT T (k + 1) := h1 k k hkm hkm
    rw [e]
    refine Tabs.go h m hm s r (k + 1) _ (by omega) (fun i j hi hj => ?_) (fun i hi => ?_)
    · unfold swStep
      split
      · rename_i e; subst e
        rw [h1 i j hi hj, h.row i j (by omega) (by omega)]
      · rename_i e
        rw [h1 k k hkm hkm, h1 i j hi hj, h1 i k hi hkm, h1 k j hkm hj, h.off k i j (by omega) (by omega) (by omega) e, Int.mul_fdiv_cancel _ hl]
    · unfold swStep
      split
      · rename_i e; subst e
        rw [h2 i hi]
        exact sumTo_eq m (fun j hj => by rw [h.row i j (by omega) (by omega)])
      · rename_i e
        rw [h1 k k hkm hkm, h1 i k hi hkm, h2 i hi, h2 k hkm, sum_step m (fun j hj => h.off k i j (by omega) (by omega) (by omega) e), Int.mul_fdiv_cancel _ hl]
theorem Tabs.sweep {n : Nat} {T : Nat → Nat → Nat → Int} (h : Tabs n T) (m : Nat) (hm : m ≤ n) (s : Nat → Int) {C : Nat → Nat → Int} {b : Nat → Int} (hC : ∀ i j, i < m → j < m → C i j = T 0 i j) (hb : ∀ i, i < m → b i = sumTo (fun j => s j * T 0 i j) m) :
    ∃ M', sweepP m (aug m C b) = some (M', false) ∧ (∀ i j, i < m → j < m → M' i j = T m i j) ∧ ∀ i, i < m → M' i m = sumTo (fun j => s j * T m i j) m :=
  Tabs.go h m hm s m 0 _ (by omega) (fun i j hi hj => by unfold aug; rw [if_pos hj, hC i j hi hj]) (fun i hi => by unfold aug; rw [if_neg (by omega), hb i hi])
theorem Tabs.det {n : Nat} {T : Nat → Nat → Nat → Int} (h : Tabs n T) (m : Nat) (hm : m ≤ n) (h0 : 0 < m) {C : Nat → Nat → Int} (hC : ∀ i j, i < m → j < m → C i j = T 0 i j) : detP m C = T m (m - 1) (m - 1) := by
  obtain ⟨M, e, h1, -⟩ := h.sweep m hm (fun _ => 0) (C := C) (b := fun _ => 0) hC (fun i _ => (sumTo_nil m (fun j _ => Int.zero_mul _)).symm)
  unfold detP
  rw [e]
  simp only [Bool.false_eq_true, if_false]
  rw [if_neg (by omega)]
  exact h1 _ _ (by omega) (by omega)
theorem Tabs.pos {n : Nat} {T : Nat → Nat → Nat → Int} (h : Tabs n T) (m : Nat) (hm : m < n) : 0 < T (m + 1) m m := by
  rw [h.row m m hm hm]
  exact h.piv m hm
theorem Tabs.definite {n : Nat} {T : Nat → Nat → Nat → Int} (h : Tabs n T) {C : Nat → Nat → Int} (hC : ∀ i j, i < n → j < n → C i j = T 0 i j) : defP n C = true := by
  refine decide_eq_true (fun i hi => ⟨fun j hj => ?_, ?_⟩)
  · rw [hC i j hi (by omega), hC j i (by omega) hi, h.sym i j hi (by omega)]
  · rw [h.det (i + 1) (by omega) (by omega) (fun a b ha hb => hC a b (by omega) (by omega))]
    exact h.pos i hi
theorem near_exact {d s : Int} (hd : 0 < d) (h1 : -10000000 ≤ s) (h2 : s ≤ 10000000) : nearP (s * d) d = s := by
  have e : Int.fdiv (s * d * 2 + d) (d * 2) = s := by
    rw [Int.fdiv_eq_ediv_of_nonneg _ (by omega)]
    have e2 : s * d * 2 + d = d + d * 2 * s := by grind
    rw [e2, Int.add_mul_ediv_left _ _ (by omega), Int.ediv_eq_zero_of_lt (by omega) (by omega), Int.zero_add]
  unfold nearP
  rw [e]
  omega
/-- Of equations whose right side is the matrix, times numbers, the solution is these numbers. -/
theorem Tabs.solve {n : Nat} {T : Nat → Nat → Nat → Int} (h : Tabs n T) (h0 : 0 < n) (s : Nat → Int) {C : Nat → Nat → Int} {b : Nat → Int} (hC : ∀ i j, i < n → j < n → C i j = T 0 i j) (hb : ∀ i, i < n → b i = sumTo (fun j => s j * T 0 i j) n) :
    ∃ M', sweepP n (aug n C b) = some (M', false) ∧ ∀ i, i < n → M' i n = s i * detP n C := by
  obtain ⟨M, e, -, h2⟩ := h.sweep n (Nat.le_refl n) s hC hb
  refine ⟨M, e, fun i hi => ?_⟩
  rw [h2 i hi, h.det n (Nat.le_refl n) h0 hC, sumTo_one n hi (fun j hj hne => by rw [h.done i j hi hj, if_neg (by omega), Int.mul_zero]), h.done i i hi hi, if_pos rfl]
/-- Numbers that the matrix makes nothing are nothing. -/
theorem Tabs.none {n : Nat} {T : Nat → Nat → Nat → Int} (h : Tabs n T) (h0 : 0 < n) (s : Nat → Int) (hz : ∀ i, i < n → sumTo (fun j => s j * T 0 i j) n = 0) : ∀ i, i < n → s i = 0 := by
  obtain ⟨M, e, h1⟩ := h.solve h0 s (C := T 0) (b := fun _ => 0) (fun _ _ _ _ => rfl) (fun i hi => (hz i hi).symm)
  obtain ⟨M2, e2, h2⟩ := h.solve h0 (fun _ => 0) (C := T 0) (b := fun _ => 0) (fun _ _ _ _ => rfl) (fun i hi => (sumTo_nil n (fun j _ => Int.zero_mul _)).symm)
  have hM : M = M2 := by
    have := e.symm.trans e2
    injection this with this
    injection this with this
  intro i hi
  have a := h1 i hi
  have b := h2 i hi
  rw [hM, b, h.det n (Nat.le_refl n) h0 (fun _ _ _ _ => rfl), Int.zero_mul] at a
  have p := h.pos (n - 1) (by omega)
  rw [show n - 1 + 1 = n by omega] at p
  rcases Int.mul_eq_zero.1 a.symm with hs | hd
  · exact hs
  · omega
end Go.Proofs.YtmidifgnpjlgcaaGreat
/- Plain: of a symmetric matrix of at most five rows whose first minors are not nothing the sweep is exact: what it finds solves the equations. -/
set_option linter.unusedVariables false
set_option linter.unusedSimpArgs false
namespace Go.Proofs.YtmidifgnpjlgcaaGreat
open Go.RowKit

section
variable (A : Nat → Nat → Int)
def D2 (r0 r1 c0 c1 : Nat) : Int := A r0 c0 * A r1 c1 - A r0 c1 * A r1 c0
def D3 (r0 r1 r2 c0 c1 c2 : Nat) : Int := A r0 c0 * D2 A r1 r2 c1 c2 - A r0 c1 * D2 A r1 r2 c0 c2 + A r0 c2 * D2 A r1 r2 c0 c1
def D4 (r0 r1 r2 r3 c0 c1 c2 c3 : Nat) : Int := A r0 c0 * D3 A r1 r2 r3 c1 c2 c3 - A r0 c1 * D3 A r1 r2 r3 c0 c2 c3 + A r0 c2 * D3 A r1 r2 r3 c0 c1 c3 - A r0 c3 * D3 A r1 r2 r3 c0 c1 c2
def D5 (r0 r1 r2 r3 r4 c0 c1 c2 c3 c4 : Nat) : Int := A r0 c0 * D4 A r1 r2 r3 r4 c1 c2 c3 c4 - A r0 c1 * D4 A r1 r2 r3 r4 c0 c2 c3 c4 + A r0 c2 * D4 A r1 r2 r3 r4 c0 c1 c3 c4 - A r0 c3 * D4 A r1 r2 r3 r4 c0 c1 c2 c4 + A r0 c4 * D4 A r1 r2 r3 r4 c0 c1 c2 c3
def D6 (r0 r1 r2 r3 r4 r5 c0 c1 c2 c3 c4 c5 : Nat) : Int := A r0 c0 * D5 A r1 r2 r3 r4 r5 c1 c2 c3 c4 c5 - A r0 c1 * D5 A r1 r2 r3 r4 r5 c0 c2 c3 c4 c5 + A r0 c2 * D5 A r1 r2 r3 r4 r5 c0 c1 c3 c4 c5 - A r0 c3 * D5 A r1 r2 r3 r4 r5 c0 c1 c2 c4 c5 + A r0 c4 * D5 A r1 r2 r3 r4 r5 c0 c1 c2 c3 c5 - A r0 c5 * D5 A r1 r2 r3 r4 r5 c0 c1 c2 c3 c4
theorem D2_01 (r s c0 c1 : Nat) : D2 A r s c0 c1 = - D2 A s r c0 c1 := by unfold D2; grind
theorem D3_01 (r s t c0 c1 c2 : Nat) : D3 A r s t c0 c1 c2 = - D3 A s r t c0 c1 c2 := by unfold D3 D2; grind
theorem D3_12 (r s t c0 c1 c2 : Nat) : D3 A r s t c0 c1 c2 = - D3 A r t s c0 c1 c2 := by unfold D3; rw [D2_01 A s t, D2_01 A s t, D2_01 A s t]; grind
theorem D4_01 (r s t u c0 c1 c2 c3 : Nat) : D4 A r s t u c0 c1 c2 c3 = - D4 A s r t u c0 c1 c2 c3 := by unfold D4 D3; grind
theorem D4_12 (r s t u c0 c1 c2 c3 : Nat) : D4 A r s t u c0 c1 c2 c3 = - D4 A r t s u c0 c1 c2 c3 := by unfold D4; rw [D3_01 A s t, D3_01 A s t, D3_01 A s t, D3_01 A s t]; grind
theorem D4_23 (r s t u c0 c1 c2 c3 : Nat) : D4 A r s t u c0 c1 c2 c3 = - D4 A r s u t c0 c1 c2 c3 := by unfold D4; rw [D3_12 A s t u, D3_12 A s t u, D3_12 A s t u, D3_12 A s t u]; grind
theorem D5_01 (r s t u v c0 c1 c2 c3 c4 : Nat) : D5 A r s t u v c0 c1 c2 c3 c4 = - D5 A s r t u v c0 c1 c2 c3 c4 := by unfold D5 D4; grind
theorem D5_12 (r s t u v c0 c1 c2 c3 c4 : Nat) : D5 A r s t u v c0 c1 c2 c3 c4 = - D5 A r t s u v c0 c1 c2 c3 c4 := by unfold D5; rw [D4_01 A s t, D4_01 A s t, D4_01 A s t, D4_01 A s t, D4_01 A s t]; grind
theorem D5_23 (r s t u v c0 c1 c2 c3 c4 : Nat) : D5 A r s t u v c0 c1 c2 c3 c4 = - D5 A r s u t v c0 c1 c2 c3 c4 := by unfold D5; rw [D4_12 A s t u, D4_12 A s t u, D4_12 A s t u, D4_12 A s t u, D4_12 A s t u]; grind
theorem D5_34 (r s t u v c0 c1 c2 c3 c4 : Nat) : D5 A r s t u v c0 c1 c2 c3 c4 = - D5 A r s t v u c0 c1 c2 c3 c4 := by unfold D5; rw [D4_23 A s t u v, D4_23 A s t u v, D4_23 A s t u v, D4_23 A s t u v, D4_23 A s t u v]; grind
theorem D6_01 (r s t u v x c0 c1 c2 c3 c4 c5 : Nat) : D6 A r s t u v x c0 c1 c2 c3 c4 c5 = - D6 A s r t u v x c0 c1 c2 c3 c4 c5 := by unfold D6 D5; grind
theorem D6_12 (r s t u v x c0 c1 c2 c3 c4 c5 : Nat) : D6 A r s t u v x c0 c1 c2 c3 c4 c5 = - D6 A r t s u v x c0 c1 c2 c3 c4 c5 := by unfold D6; rw [D5_01 A s t, D5_01 A s t, D5_01 A s t, D5_01 A s t, D5_01 A s t, D5_01 A s t]; grind
theorem D6_23 (r s t u v x c0 c1 c2 c3 c4 c5 : Nat) : D6 A r s t u v x c0 c1 c2 c3 c4 c5 = - D6 A r s u t v x c0 c1 c2 c3 c4 c5 := by unfold D6; rw [D5_12 A s t u, D5_12 A s t u, D5_12 A s t u, D5_12 A s t u, D5_12 A s t u, D5_12 A s t u]; grind
theorem D6_34 (r s t u v x c0 c1 c2 c3 c4 c5 : Nat) : D6 A r s t u v x c0 c1 c2 c3 c4 c5 = - D6 A r s t v u x c0 c1 c2 c3 c4 c5 := by unfold D6; rw [D5_23 A s t u v, D5_23 A s t u v, D5_23 A s t u v, D5_23 A s t u v, D5_23 A s t u v, D5_23 A s t u v]; grind
theorem D6_45 (r s t u v x c0 c1 c2 c3 c4 c5 : Nat) : D6 A r s t u v x c0 c1 c2 c3 c4 c5 = - D6 A r s t u x v c0 c1 c2 c3 c4 c5 := by unfold D6; rw [D5_34 A s t u v x, D5_34 A s t u v x, D5_34 A s t u v x, D5_34 A s t u v x, D5_34 A s t u v x, D5_34 A s t u v x]; grind
end

/-- The first minors. -/
def dd (A : Nat → Nat → Int) : Nat → Int
  | 0 => 1
  | 1 => A 0 0
  | 2 => D2 A 0 1 0 1
  | 3 => D3 A 0 1 2 0 1 2
  | 4 => D4 A 0 1 2 3 0 1 2 3
  | 5 => D5 A 0 1 2 3 4 0 1 2 3 4
  | _ => 0
/-- A matrix with a column more. -/
def bor (A : Nat → Nat → Int) (m : Nat) (b : Nat → Int) (i j : Nat) : Int := if j = m then b i else A i j
/-- What solves the equations, times the minor. -/
def xx (A : Nat → Nat → Int) : Nat → (Nat → Int) → Nat → Int
  | 1, b, 0 => b 0
  | 2, b, 0 => -D2 (bor A 2 b) 0 1 1 2
  | 2, b, 1 => D2 (bor A 2 b) 0 1 0 2
  | 3, b, 0 => D3 (bor A 3 b) 0 1 2 1 2 3
  | 3, b, 1 => -D3 (bor A 3 b) 0 1 2 0 2 3
  | 3, b, 2 => D3 (bor A 3 b) 0 1 2 0 1 3
  | 4, b, 0 => -D4 (bor A 4 b) 0 1 2 3 1 2 3 4
  | 4, b, 1 => D4 (bor A 4 b) 0 1 2 3 0 2 3 4
  | 4, b, 2 => -D4 (bor A 4 b) 0 1 2 3 0 1 3 4
  | 4, b, 3 => D4 (bor A 4 b) 0 1 2 3 0 1 2 4
  | 5, b, 0 => D5 (bor A 5 b) 0 1 2 3 4 1 2 3 4 5
  | 5, b, 1 => -D5 (bor A 5 b) 0 1 2 3 4 0 2 3 4 5
  | 5, b, 2 => D5 (bor A 5 b) 0 1 2 3 4 0 1 3 4 5
  | 5, b, 3 => -D5 (bor A 5 b) 0 1 2 3 4 0 1 2 4 5
  | 5, b, 4 => D5 (bor A 5 b) 0 1 2 3 4 0 1 2 3 5
  | _, _, _ => 0

theorem neg_self {x : Int} (h : x = -x) : x = 0 := by omega
theorem D3_rep (B : Nat → Nat → Int) (i c0 c1 c2 : Nat) (hi : i < 2) : D3 B i 0 1 c0 c1 c2 = 0 := by
  rcases (show i = 0 ∨ i = 1 by omega) with rfl | rfl
  · exact neg_self (D3_01 B 0 0 1 c0 c1 c2)
  · rw [D3_12, neg_self (D3_01 B 1 1 0 c0 c1 c2)]; rfl
theorem D4_rep (B : Nat → Nat → Int) (i c0 c1 c2 c3 : Nat) (hi : i < 3) : D4 B i 0 1 2 c0 c1 c2 c3 = 0 := by
  rcases (show i = 0 ∨ i = 1 ∨ i = 2 by omega) with rfl | rfl | rfl
  · exact neg_self (D4_01 B 0 0 1 2 c0 c1 c2 c3)
  · rw [D4_12, neg_self (D4_01 B 1 1 0 2 c0 c1 c2 c3)]; rfl
  · rw [D4_23, D4_12, neg_self (D4_01 B 2 2 0 1 c0 c1 c2 c3)]; rfl
theorem D5_rep (B : Nat → Nat → Int) (i c0 c1 c2 c3 c4 : Nat) (hi : i < 4) : D5 B i 0 1 2 3 c0 c1 c2 c3 c4 = 0 := by
  rcases (show i = 0 ∨ i = 1 ∨ i = 2 ∨ i = 3 by omega) with rfl | rfl | rfl | rfl
  · exact neg_self (D5_01 B 0 0 1 2 3 c0 c1 c2 c3 c4)
  · rw [D5_12, neg_self (D5_01 B 1 1 0 2 3 c0 c1 c2 c3 c4)]; rfl
  · rw [D5_23, D5_12, neg_self (D5_01 B 2 2 0 1 3 c0 c1 c2 c3 c4)]; rfl
  · rw [D5_34, D5_23, D5_12, neg_self (D5_01 B 3 3 0 1 2 c0 c1 c2 c3 c4)]; rfl
theorem D6_rep (B : Nat → Nat → Int) (i c0 c1 c2 c3 c4 c5 : Nat) (hi : i < 5) : D6 B i 0 1 2 3 4 c0 c1 c2 c3 c4 c5 = 0 := by
  rcases (show i = 0 ∨ i = 1 ∨ i = 2 ∨ i = 3 ∨ i = 4 by omega) with rfl | rfl | rfl | rfl | rfl
  · exact neg_self (D6_01 B 0 0 1 2 3 4 c0 c1 c2 c3 c4 c5)
  · rw [D6_12, neg_self (D6_01 B 1 1 0 2 3 4 c0 c1 c2 c3 c4 c5)]; rfl
  · rw [D6_23, D6_12, neg_self (D6_01 B 2 2 0 1 3 4 c0 c1 c2 c3 c4 c5)]; rfl
  · rw [D6_34, D6_23, D6_12, neg_self (D6_01 B 3 3 0 1 2 4 c0 c1 c2 c3 c4 c5)]; rfl
  · rw [D6_45, D6_34, D6_23, D6_12, neg_self (D6_01 B 4 4 0 1 2 3 c0 c1 c2 c3 c4 c5)]; rfl
theorem bor_at (A : Nat → Nat → Int) (m : Nat) (b : Nat → Int) (i : Nat) : bor A m b i m = b i := if_pos rfl
theorem bor_ne (A : Nat → Nat → Int) (m : Nat) (b : Nat → Int) (i : Nat) {j : Nat} (h : j ≠ m) : bor A m b i j = A i j := if_neg h
/-- The equations are solved. -/
theorem sol (A : Nat → Nat → Int) (b : Nat → Int) (m : Nat) (hm : m ≤ 5) (i : Nat) (hi : i < m) : sumTo (fun l => A i l * xx A m b l) m = dd A m * b i := by
  rcases (show m = 1 ∨ m = 2 ∨ m = 3 ∨ m = 4 ∨ m = 5 by omega) with rfl | rfl | rfl | rfl | rfl
  · obtain rfl : i = 0 := by omega
    show 0 + A 0 0 * b 0 = A 0 0 * b 0
    omega
  · have h := D3_rep (bor A 2 b) i 0 1 2 hi
    unfold D3 at h
    rw [bor_at, bor_ne A 2 b i (by decide), bor_ne A 2 b i (by decide)] at h
    have e : D2 (bor A 2 b) 0 1 0 1 = D2 A 0 1 0 1 := rfl
    rw [e] at h
    show 0 + A i 0 * -D2 (bor A 2 b) 0 1 1 2 + A i 1 * D2 (bor A 2 b) 0 1 0 2 = D2 A 0 1 0 1 * b i
    grind
  · have h := D4_rep (bor A 3 b) i 0 1 2 3 hi
    unfold D4 at h
    rw [bor_at, bor_ne A 3 b i (by decide), bor_ne A 3 b i (by decide), bor_ne A 3 b i (by decide)] at h
    have e : D3 (bor A 3 b) 0 1 2 0 1 2 = D3 A 0 1 2 0 1 2 := rfl
    rw [e] at h
    show 0 + A i 0 * D3 (bor A 3 b) 0 1 2 1 2 3 + A i 1 * -D3 (bor A 3 b) 0 1 2 0 2 3 + A i 2 * D3 (bor A 3 b) 0 1 2 0 1 3 = D3 A 0 1 2 0 1 2 * b i
    grind
  · have h := D5_rep (bor A 4 b) i 0 1 2 3 4 hi
    unfold D5 at h
    rw [bor_at, bor_ne A 4 b i (by decide), bor_ne A 4 b i (by decide), bor_ne A 4 b i (by decide), bor_ne A 4 b i (by decide)] at h
    have e : D4 (bor A 4 b) 0 1 2 3 0 1 2 3 = D4 A 0 1 2 3 0 1 2 3 := rfl
    rw [e] at h
    show 0 + A i 0 * -D4 (bor A 4 b) 0 1 2 3 1 2 3 4 + A i 1 * D4 (bor A 4 b) 0 1 2 3 0 2 3 4 + A i 2 * -D4 (bor A 4 b) 0 1 2 3 0 1 3 4 + A i 3 * D4 (bor A 4 b) 0 1 2 3 0 1 2 4 = D4 A 0 1 2 3 0 1 2 3 * b i
    grind
  · have h := D6_rep (bor A 5 b) i 0 1 2 3 4 5 hi
    unfold D6 at h
    rw [bor_at, bor_ne A 5 b i (by decide), bor_ne A 5 b i (by decide), bor_ne A 5 b i (by decide), bor_ne A 5 b i (by decide), bor_ne A 5 b i (by decide)] at h
    have e : D5 (bor A 5 b) 0 1 2 3 4 0 1 2 3 4 = D5 A 0 1 2 3 4 0 1 2 3 4 := rfl
    rw [e] at h
    show 0 + A i 0 * D5 (bor A 5 b) 0 1 2 3 4 1 2 3 4 5 + A i 1 * -D5 (bor A 5 b) 0 1 2 3 4 0 2 3 4 5 + A i 2 * D5 (bor A 5 b) 0 1 2 3 4 0 1 3 4 5 + A i 3 * -D5 (bor A 5 b) 0 1 2 3 4 0 1 2 4 5 + A i 4 * D5 (bor A 5 b) 0 1 2 3 4 0 1 2 3 5 = D5 A 0 1 2 3 4 0 1 2 3 4 * b i
    grind
/-- The next minor. -/
theorem rel (A : Nat → Nat → Int) (m : Nat) (hm : m < 5) : dd A (m + 1) = dd A m * A m m - sumTo (fun l => A m l * xx A m (fun i => A i m) l) m := by
  rcases (show m = 0 ∨ m = 1 ∨ m = 2 ∨ m = 3 ∨ m = 4 by omega) with rfl | rfl | rfl | rfl | rfl
  · show A 0 0 = 1 * A 0 0 - 0; omega
  · show A 0 0 * A 1 1 - A 0 1 * A 1 0 = A 0 0 * A 1 1 - (0 + A 1 0 * A 0 1); grind
  · show D3 A 0 1 2 0 1 2 = D2 A 0 1 0 1 * A 2 2 - (0 + A 2 0 * -D2 A 0 1 1 2 + A 2 1 * D2 A 0 1 0 2)
    rw [D3_12, D3_01]
    unfold D3
    grind
  · show D4 A 0 1 2 3 0 1 2 3 = D3 A 0 1 2 0 1 2 * A 3 3 - (0 + A 3 0 * D3 A 0 1 2 1 2 3 + A 3 1 * -D3 A 0 1 2 0 2 3 + A 3 2 * D3 A 0 1 2 0 1 3)
    rw [D4_23, D4_12, D4_01]
    unfold D4
    grind
  · show D5 A 0 1 2 3 4 0 1 2 3 4 = D4 A 0 1 2 3 0 1 2 3 * A 4 4 - (0 + A 4 0 * -D4 A 0 1 2 3 1 2 3 4 + A 4 1 * D4 A 0 1 2 3 0 2 3 4 + A 4 2 * -D4 A 0 1 2 3 0 1 3 4 + A 4 3 * D4 A 0 1 2 3 0 1 2 4)
    rw [D5_34, D5_23, D5_12, D5_01]
    unfold D5
    grind
end Go.Proofs.YtmidifgnpjlgcaaGreat
/- Plain: the sweep of a symmetric matrix of at most five rows is exact. -/
set_option linter.unusedVariables false
set_option linter.unusedSimpArgs false
namespace Go.Proofs.YtmidifgnpjlgcaaGreat
open Go.RowKit

def Sym (A : Nat → Nat → Int) (m : Nat) : Prop := ∀ i j, i < m → j < m → A i j = A j i
theorem sum_lin (a X Z : Nat → Int) (p q : Int) : ∀ m, sumTo (fun l => a l * (p * X l - q * Z l)) m = p * sumTo (fun l => a l * X l) m - q * sumTo (fun l => a l * Z l) m
  | 0 => by show (0 : Int) = p * 0 - q * 0; omega
  | m + 1 => by
    show sumTo (fun l => a l * (p * X l - q * Z l)) m + a m * (p * X m - q * Z m) = p * (sumTo (fun l => a l * X l) m + a m * X m) - q * (sumTo (fun l => a l * Z l) m + a m * Z m)
    rw [sum_lin a X Z p q m]
    grind
/-- Where the minor is not nothing, only nothing is made nothing. -/
theorem uniq {A : Nat → Nat → Int} {m : Nat} (hm : m ≤ 5) (hs : Sym A m) (hd : dd A m ≠ 0) {u : Nat → Int} (hu : ∀ i, i < m → sumTo (fun l => A i l * u l) m = 0) (c : Nat) (hc : c < m) : u c = 0 := by
  have e1 : dd A m * u c = sumTo (fun i => u i * sumTo (fun l => A i l * xx A m (fun k => if k = c then 1 else 0) l) m) m := by
    rw [sumTo_eq m (fun i hi => by rw [sol A (fun k => if k = c then 1 else 0) m hm i hi])]
    rw [sumTo_one m hc (fun j hj hne => by rw [if_neg hne, Int.mul_zero, Int.mul_zero]), if_pos rfl, Int.mul_one, Int.mul_comm]
  have e2 : sumTo (fun i => u i * sumTo (fun l => A i l * xx A m (fun k => if k = c then 1 else 0) l) m) m = sumTo (fun i => sumTo (fun l => u i * (A i l * xx A m (fun k => if k = c then 1 else 0) l)) m) m :=
    sumTo_eq m (fun i _ => by rw [← sumTo_mul])
  rw [e2, sumTo_swap] at e1
  have e3 : sumTo (fun l => sumTo (fun i => u i * (A i l * xx A m (fun k => if k = c then 1 else 0) l)) m) m = 0 := by
    refine sumTo_nil m (fun l hl => ?_)
    have e4 : sumTo (fun i => u i * (A i l * xx A m (fun k => if k = c then 1 else 0) l)) m = sumTo (fun i => xx A m (fun k => if k = c then 1 else 0) l * (A l i * u i)) m :=
      sumTo_eq m (fun i hi => by rw [hs i l hi hl]; grind)
    rw [e4, sumTo_mul, hu l hl, Int.mul_zero]
  rw [e3] at e1
  rcases Int.mul_eq_zero.1 e1 with h | h
  · exact absurd h hd
  · exact h
/-- The rest of a row behind so many steps. -/
def rst (A : Nat → Nat → Int) (m : Nat) (b : Nat → Int) (i : Nat) : Int := dd A m * b i - sumTo (fun l => A i l * xx A m b l) m
theorem rst_piv (A : Nat → Nat → Int) (m : Nat) (hm : m < 5) : rst A m (fun i => A i m) m = dd A (m + 1) := (rel A m hm).symm
/-- One step more. -/
theorem next {A : Nat → Nat → Int} {m : Nat} (hm : m < 5) (hs : Sym A (m + 1)) (hd : dd A m ≠ 0) (hd' : dd A (m + 1) ≠ 0) (b : Nat → Int) :
    xx A (m + 1) b m = rst A m b m ∧ ∀ l, l < m → dd A (m + 1) * xx A m b l - xx A m (fun i => A i m) l * rst A m b m = xx A (m + 1) b l * dd A m := by
  have key := fun c hc => uniq (A := A) (m := m + 1) (by omega) hs hd' (u := fun l => if l = m then dd A m * xx A (m + 1) b m - dd A m * rst A m b m else dd A m * xx A (m + 1) b l - (dd A (m + 1) * xx A m b l - rst A m b m * xx A m (fun i => A i m) l)) (fun i hi => by
    have hlow : sumTo (fun l => A i l * (if l = m then dd A m * xx A (m + 1) b m - dd A m * rst A m b m else dd A m * xx A (m + 1) b l - (dd A (m + 1) * xx A m b l - rst A m b m * xx A m (fun i => A i m) l))) m = dd A m * sumTo (fun l => A i l * xx A (m + 1) b l) m - (dd A (m + 1) * sumTo (fun l => A i l * xx A m b l) m - rst A m b m * sumTo (fun l => A i l * xx A m (fun i => A i m) l) m) := by
      rw [← sum_lin (A i) (xx A m b) (xx A m (fun i => A i m))]
      have e := sum_lin (A i) (xx A (m + 1) b) (fun l => dd A (m + 1) * xx A m b l - rst A m b m * xx A m (fun i => A i m) l) (dd A m) 1 m
      rw [Int.one_mul] at e
      rw [← e]
      exact sumTo_eq m (fun l hl => by rw [if_neg (by omega), Int.one_mul])
    show sumTo _ m + A i m * (if m = m then _ else _) = 0
    rw [hlow, if_pos rfl]
    have hso : sumTo (fun l => A i l * xx A (m + 1) b l) m + A i m * xx A (m + 1) b m = dd A (m + 1) * b i := sol A b (m + 1) (by omega) i hi
    by_cases him : i < m
    · rw [sol A b m (by omega) i him, sol A (fun i => A i m) m (by omega) i him]
      generalize sumTo (fun l => A i l * xx A (m + 1) b l) m = s1 at *
      generalize xx A (m + 1) b m = y at *
      generalize rst A m b m = e at *
      grind
    · obtain rfl : i = m := by omega
      have h1 : rst A i b i = dd A i * b i - sumTo (fun l => A i l * xx A i b l) i := rfl
      have h2 := rel A i hm
      generalize sumTo (fun l => A i l * xx A (i + 1) b l) i = s1 at *
      generalize sumTo (fun l => A i l * xx A i b l) i = s2 at *
      generalize sumTo (fun l => A i l * xx A i (fun k => A k i) l) i = s3 at *
      generalize xx A (i + 1) b i = y at *
      generalize rst A i b i = e at *
      generalize dd A (i + 1) = d' at *
      generalize dd A i = d at *
      grind) c hc
  have k1 := key m (by omega)
  simp only [if_true] at k1
  have k2 : dd A m * (xx A (m + 1) b m - rst A m b m) = 0 := by rw [Int.mul_sub]; exact k1
  refine ⟨?_, fun l hl => ?_⟩
  · rcases Int.mul_eq_zero.1 k2 with h | h
    · exact absurd h hd
    · omega
  · have k3 := key l (by omega)
    rw [if_neg (by omega)] at k3
    have e1 : xx A m (fun i => A i m) l * rst A m b m = rst A m b m * xx A m (fun i => A i m) l := Int.mul_comm _ _
    have e2 : xx A (m + 1) b l * dd A m = dd A m * xx A (m + 1) b l := Int.mul_comm _ _
    rw [e1, e2]
    omega
/-- The columns of the matrix with its right side. -/
def colOf (A : Nat → Nat → Int) (k : Nat) (b : Nat → Int) (j : Nat) : Nat → Int := fun i => if j < k then A i j else b i
/-- How the sweep stands behind so many steps. -/
def St (A : Nat → Nat → Int) (k : Nat) (b : Nat → Int) (m : Nat) (M : Nat → Nat → Int) : Prop := ∀ i j, i < k → j ≤ k → M i j = if i < m then xx A m (colOf A k b j) i else rst A m (colOf A k b j) i
theorem St.start (A : Nat → Nat → Int) (k : Nat) (b : Nat → Int) : St A k b 0 (aug k A b) := by
  intro i j hi hj
  rw [if_neg (by omega)]
  show (if j < k then A i j else b i) = 1 * (if j < k then A i j else b i) - 0
  omega
theorem St.piv {A : Nat → Nat → Int} {k m : Nat} {b : Nat → Int} {M : Nat → Nat → Int} (h : St A k b m M) (hk : k ≤ 5) (hm : m < k) : M m m = dd A (m + 1) := by
  rw [h m m hm (by omega), if_neg (by omega), ← rst_piv A m (by omega)]
  unfold colOf
  simp only [if_pos hm]
theorem St.step {A : Nat → Nat → Int} {k m : Nat} {b : Nat → Int} {M : Nat → Nat → Int} (h : St A k b m M) (hk : k ≤ 5) (hm : m < k) (hs : Sym A k) (hd : dd A m ≠ 0) (hd' : dd A (m + 1) ≠ 0) : St A k b (m + 1) (swStep m (dd A m) M) := by
  intro i j hi hj
  have hp := h.piv hk hm
  obtain ⟨n1, n2⟩ := next (A := A) (m := m) (by omega) (fun i j hi hj => hs i j (by omega) (by omega)) hd hd' (colOf A k b j)
  have hcm : colOf A k b m = fun i => A i m := by unfold colOf; simp only [if_pos hm]
  have hmj : M m j = rst A m (colOf A k b j) m := by rw [h m j hm hj, if_neg (by omega)]
  unfold swStep
  by_cases e : i = m
  · subst e
    rw [if_pos rfl, if_pos (by omega), hmj, n1]
  · rw [if_neg e, hp, hmj, h i j hi hj, h i m hi (by omega), hcm]
    by_cases him : i < m
    · rw [if_pos him, if_pos him, if_pos (by omega), n2 i him, Int.mul_fdiv_cancel _ hd]
    · rw [if_neg him, if_neg him, if_neg (by omega)]
      have e2 : dd A (m + 1) * rst A m (colOf A k b j) i - rst A m (fun i => A i m) i * rst A m (colOf A k b j) m = rst A (m + 1) (colOf A k b j) i * dd A m := by
        unfold rst
        have hsum : sumTo (fun l => A i l * xx A (m + 1) (colOf A k b j) l) (m + 1) = sumTo (fun l => A i l * xx A (m + 1) (colOf A k b j) l) m + A i m * xx A (m + 1) (colOf A k b j) m := rfl
        have h3 : sumTo (fun l => A i l * xx A (m + 1) (colOf A k b j) l) m * dd A m = dd A (m + 1) * sumTo (fun l => A i l * xx A m (colOf A k b j) l) m - rst A m (colOf A k b j) m * sumTo (fun l => A i l * xx A m (fun i => A i m) l) m := by
          rw [← sum_lin (A i) (xx A m (colOf A k b j)) (xx A m (fun i => A i m)), Int.mul_comm, ← sumTo_mul]
          refine sumTo_eq m (fun l hl => ?_)
          have := n2 l hl
          have e4 : dd A m * (A i l * xx A (m + 1) (colOf A k b j) l) = A i l * (xx A (m + 1) (colOf A k b j) l * dd A m) := by grind
          rw [e4, ← this]
          grind
        rw [hsum, n1]
        have h4 : rst A m (colOf A k b j) m = dd A m * colOf A k b j m - sumTo (fun l => A m l * xx A m (colOf A k b j) l) m := rfl
        rw [← h4]
        generalize rst A m (colOf A k b j) m = r0 at *
        generalize sumTo (fun l => A i l * xx A (m + 1) (colOf A k b j) l) m = s1 at *
        generalize sumTo (fun l => A i l * xx A m (colOf A k b j) l) m = s2 at *
        generalize sumTo (fun l => A i l * xx A m (fun i => A i m) l) m = s3 at *
        generalize colOf A k b j i = c at *
        generalize dd A (m + 1) = d' at *
        generalize dd A m = d at *
        grind
      rw [e2, Int.mul_fdiv_cancel _ hd]
theorem St.go {A : Nat → Nat → Int} {k : Nat} {b : Nat → Int} (hk : k ≤ 5) (hs : Sym A k) (hd : ∀ s, s < k → dd A s ≠ 0) : ∀ r m M, m + r = k → St A k b m M →
    (dd A k ≠ 0 → ∃ M', swGo k r m (dd A m) false M = some (M', false) ∧ St A k b k M') ∧ (dd A k = 0 → 0 < r → swGo k r m (dd A m) false M = none)
  | 0, m, M, hm, h => by
    obtain rfl : m = k := by omega
    exact ⟨fun _ => ⟨M, rfl, h⟩, fun _ h0 => absurd h0 (by decide)⟩
  | r + 1, m, M, hm, h => by
    have hmk : m < k := by omega
    have hp := h.piv hk hmk
    by_cases h0 : dd A (m + 1) = 0
    · have hmk1 : m + 1 = k := by
        apply Classical.byContradiction
        intro hne
        exact hd (m + 1) (by omega) h0
      refine ⟨fun hne => absurd (hmk1 ▸ h0) hne, fun _ _ => ?_⟩
      have hpv : pivF M m (k - m) m = k := by
        rw [show k - m = 0 + 1 by omega, pivF, if_pos (by rw [hp]; exact h0), pivF]
        exact hmk1
      rw [swGo, hpv, if_pos rfl]
    · have hpv : pivF M m (k - m) m = m := by
        rw [show k - m = (k - m - 1) + 1 by omega, pivF, if_neg (by rw [hp]; exact h0)]
      rw [swGo, hpv, if_neg (by omega), if_pos rfl, hp]
      have ih := St.go hk hs hd r (m + 1) _ (by omega) (h.step hk hmk hs (hd m hmk) h0)
      refine ⟨ih.1, fun hz _ => ?_⟩
      refine ih.2 hz ?_
      apply Classical.byContradiction
      intro hr
      obtain rfl : m + 1 = k := by omega
      exact h0 hz
theorem det_dd {A : Nat → Nat → Int} {k : Nat} (hk : k ≤ 5) (h0 : 0 < k) (hs : Sym A k) (hd : ∀ s, s < k → dd A s ≠ 0) : detP k A = dd A k := by
  obtain ⟨g1, g2⟩ := St.go (b := fun _ => 0) hk hs hd k 0 _ (by omega) (St.start A k (fun _ => 0))
  unfold detP sweepP
  by_cases hz : dd A k = 0
  · have e := g2 hz h0
    rw [show dd A 0 = 1 from rfl] at e
    rw [e, hz]
  · obtain ⟨M, e, h⟩ := g1 hz
    rw [show dd A 0 = 1 from rfl] at e
    rw [e]
    simp only [Bool.false_eq_true, if_false]
    rw [if_neg (by omega), h (k - 1) (k - 1) (by omega) (by omega), if_pos (by omega)]
    have hc : colOf A k (fun _ => 0) (k - 1) = fun i => A i (k - 1) := by unfold colOf; simp only [if_pos (show k - 1 < k by omega)]
    rw [hc]
    -- the column of the matrix itself is made of the minor
    have hu := fun c hc => uniq (A := A) (m := k) hk hs hz (u := fun l => xx A k (fun i => A i (k - 1)) l - dd A k * (if l = k - 1 then 1 else 0)) (fun i hi => by
      have e1 := sum_lin (A i) (xx A k (fun i => A i (k - 1))) (fun l => if l = k - 1 then 1 else 0) 1 (dd A k) k
      rw [Int.one_mul] at e1
      have e2 : sumTo (fun l => A i l * (1 * xx A k (fun i => A i (k - 1)) l - dd A k * (if l = k - 1 then 1 else 0))) k = sumTo (fun l => A i l * (xx A k (fun i => A i (k - 1)) l - dd A k * (if l = k - 1 then 1 else 0))) k := sumTo_eq k (fun l _ => by rw [Int.one_mul])
      rw [← e2, e1, sol A (fun i => A i (k - 1)) k hk i hi, sumTo_one k (show k - 1 < k by omega) (fun j hj hne => by rw [if_neg hne, Int.mul_zero]), if_pos rfl, Int.mul_one]
      omega) c hc
    have := hu (k - 1) (by omega)
    rw [if_pos rfl, Int.mul_one] at this
    omega
/-- Of a definite matrix each minor is more than nothing. -/
theorem def_dd {A : Nat → Nat → Int} {k : Nat} (hk : k ≤ 5) (h : defP k A = true) : Sym A k ∧ (∀ s, s ≤ k → 0 < dd A s) ∧ (0 < k → detP k A = dd A k) := by
  have h' := of_decide_eq_true h
  have hs : Sym A k := fun i j hi hj => by
    rcases Nat.lt_trichotomy i j with e | e | e
    · exact ((h' j hj).1 i e).symm
    · rw [e]
    · exact (h' i hi).1 j e
  have hp : ∀ s, s ≤ k → 0 < dd A s := by
    intro s
    induction s using Nat.strongRecOn with
    | ind s ih =>
      intro hsk
      by_cases e : s = 0
      · subst e; show (0 : Int) < 1; decide
      · have hd := det_dd (A := A) (k := s) (by omega) (by omega) (fun i j hi hj => hs i j (by omega) (by omega)) (fun t ht => by have := ih t ht (by omega); omega)
        have := (h' (s - 1) (by omega)).2
        rw [show s - 1 + 1 = s by omega, hd] at this
        exact this
  exact ⟨hs, hp, fun h0 => det_dd hk h0 hs (fun s hs' => by have := hp s (by omega); omega)⟩
/-- What is found solves the equations. -/
theorem def_sweep {A : Nat → Nat → Int} {k : Nat} (hk : k ≤ 5) (h : defP k A = true) (b : Nat → Int) : ∃ M, sweepP k (aug k A b) = some (M, false) ∧ ∀ i, i < k → M i k = xx A k b i := by
  obtain ⟨hs, hp, -⟩ := def_dd hk h
  obtain ⟨g1, -⟩ := St.go (b := b) hk hs (fun s hs' => by have := hp s (by omega); omega) k 0 _ (by omega) (St.start A k b)
  obtain ⟨M, e, hS⟩ := g1 (by have := hp k (Nat.le_refl _); omega)
  refine ⟨M, e, fun i hi => ?_⟩
  rw [hS i k hi (Nat.le_refl _), if_pos hi]
  congr 1
  unfold colOf
  simp only [if_neg (Nat.lt_irrefl k)]
end Go.Proofs.YtmidifgnpjlgcaaGreat
/- Plain: what is left out is not made up. -/
set_option linter.unusedVariables false
set_option linter.unusedSimpArgs false
namespace Go.Proofs.YtmidifgnpjlgcaaGreat
open Go.RowKit

def qd (n : Nat) (P : Nat → Nat → Int) (z : Nat → Int) : Int := sumTo (fun i => z i * sumTo (fun j => P i j * z j) n) n
theorem sumTo_split (f : Nat → Int) (k : Nat) : ∀ m, sumTo f (k + m) = sumTo f k + sumTo (fun j => f (k + j)) m
  | 0 => (Int.add_zero _).symm
  | m + 1 => by
    show sumTo f (k + m) + f (k + m) = sumTo f k + (sumTo (fun j => f (k + j)) m + f (k + m))
    rw [sumTo_split f k m, Int.add_assoc]
theorem sumTo_le {f g : Nat → Int} : ∀ n, (∀ j, j < n → f j ≤ g j) → sumTo f n ≤ sumTo g n
  | 0, _ => Int.le_refl _
  | n + 1, h => Int.add_le_add (sumTo_le n (fun j hj => h j (by omega))) (h n (by omega))
theorem sumTo_neg (f : Nat → Int) (n : Nat) : sumTo (fun j => -f j) n = -sumTo f n := by
  have := sumTo_mul (-1) f n
  rw [← Int.neg_one_mul, ← this]
  exact sumTo_eq n (fun j _ => by omega)
theorem sumTo_sub (f g : Nat → Int) : ∀ n, sumTo (fun j => f j - g j) n = sumTo f n - sumTo g n
  | 0 => rfl
  | n + 1 => by
    show sumTo (fun j => f j - g j) n + (f n - g n) = (sumTo f n + f n) - (sumTo g n + g n)
    rw [sumTo_sub f g n]
    omega
/-- The state whose first numbers are nothing. -/
def padv (k : Nat) (v : Nat → Int) (j : Nat) : Int := if j < k then 0 else v (j - k)
/-- The right side: how steep it is, the other way. -/
def rhsF (P : Nat → Nat → Int) (k m : Nat) (v : Nat → Int) (l : Nat) : Int := -sumTo (fun j => P l (k + j) * v j) m
def nnF (P : Nat → Nat → Int) (k i : Nat) : Nat → Int := xx P k (fun l => P (k + i) l)
/-- What is left of the matrix, times the minor. -/
def remF (P : Nat → Nat → Int) (k i j : Nat) : Int := P (k + i) (k + j) * dd P k - sumTo (fun l => nnF P k i l * P (k + j) l) k
def cenF (P : Nat → Nat → Int) (k m : Nat) (v : Nat → Int) : Int := sumTo (fun i => v i * sumTo (fun j => P (k + i) (k + j) * v j) m) m
def topF (P : Nat → Nat → Int) (k m : Nat) (v : Nat → Int) : Int := cenF P k m v * dd P k - sumTo (fun l => rhsF P k m v l * xx P k (rhsF P k m v) l) k

theorem pad_sum (P : Nat → Nat → Int) (k m : Nat) (v : Nat → Int) (i : Nat) : sumTo (fun j => P i j * padv k v j) (k + m) = sumTo (fun j => P i (k + j) * v j) m := by
  rw [sumTo_split, sumTo_nil k (fun j hj => by unfold padv; rw [if_pos hj, Int.mul_zero]), Int.zero_add]
  exact sumTo_eq m (fun j _ => by unfold padv; rw [if_neg (by omega), Nat.add_sub_cancel_left])
theorem pad_qd (P : Nat → Nat → Int) (k m : Nat) (v : Nat → Int) : qd (k + m) P (padv k v) = cenF P k m v := by
  unfold qd cenF
  rw [sumTo_split, sumTo_nil k (fun j hj => by unfold padv; rw [if_pos hj, Int.zero_mul]), Int.zero_add]
  refine sumTo_eq m (fun j _ => ?_)
  rw [pad_sum]
  unfold padv
  rw [if_neg (by omega), Nat.add_sub_cancel_left]

section
variable {P : Nat → Nat → Int} {k m : Nat} {v : Nat → Int}
theorem num_lin (hk : k ≤ 5) (hs : Sym P (k + m)) (hd : dd P k ≠ 0) (l : Nat) (hl : l < k) : xx P k (rhsF P k m v) l = -sumTo (fun i => v i * nnF P k i l) m := by
  have := uniq (A := P) hk (fun i j hi hj => hs i j (by omega) (by omega)) hd (u := fun l => xx P k (rhsF P k m v) l + sumTo (fun i => v i * nnF P k i l) m) (fun i hi => by
    have e1 : sumTo (fun l => P i l * (xx P k (rhsF P k m v) l + sumTo (fun i => v i * nnF P k i l) m)) k = sumTo (fun l => P i l * xx P k (rhsF P k m v) l) k + sumTo (fun l => sumTo (fun j => v j * (P i l * nnF P k j l)) m) k := by
      rw [← sumTo_add]
      refine sumTo_eq k (fun l _ => ?_)
      rw [Int.mul_add, ← sumTo_mul]
      congr 1
      exact sumTo_eq m (fun j _ => by grind)
    rw [e1, sol P _ k hk i hi, sumTo_swap]
    have e2 : sumTo (fun j => sumTo (fun l => v j * (P i l * nnF P k j l)) k) m = sumTo (fun j => dd P k * (P i (k + j) * v j)) m := by
      refine sumTo_eq m (fun j hj => ?_)
      rw [sumTo_mul]
      have h := sol P (fun l => P (k + j) l) k hk i hi
      have h2 : sumTo (fun l => P i l * nnF P k j l) k = dd P k * P (k + j) i := h
      rw [h2, hs (k + j) i (by omega) (by omega)]
      grind
    rw [e2, sumTo_mul]
    unfold rhsF
    grind) l hl
  omega
/-- The least is what is left of the matrix. -/
theorem top_eq (hk : k ≤ 5) (hs : Sym P (k + m)) (hd : dd P k ≠ 0) : topF P k m v = qd m (remF P k) v := by
  have e1 : qd m (remF P k) v = cenF P k m v * dd P k - sumTo (fun l => sumTo (fun i => v i * nnF P k i l) m * sumTo (fun j => P (k + j) l * v j) m) k := by
    have a : qd m (remF P k) v = sumTo (fun i => v i * (dd P k * sumTo (fun j => P (k + i) (k + j) * v j) m) - v i * sumTo (fun l => nnF P k i l * sumTo (fun j => P (k + j) l * v j) m) k) m := by
      unfold qd
      refine sumTo_eq m (fun i _ => ?_)
      rw [← Int.mul_sub]
      congr 1
      have b1 : sumTo (fun j => remF P k i j * v j) m = sumTo (fun j => dd P k * (P (k + i) (k + j) * v j) - sumTo (fun l => nnF P k i l * (P (k + j) l * v j)) k) m := by
        refine sumTo_eq m (fun j _ => ?_)
        unfold remF
        have c : sumTo (fun l => nnF P k i l * (P (k + j) l * v j)) k = v j * sumTo (fun l => nnF P k i l * P (k + j) l) k := by
          rw [← sumTo_mul]
          exact sumTo_eq k (fun l _ => by grind)
        rw [c]
        grind
      rw [b1, sumTo_sub, sumTo_mul, sumTo_swap]
      congr 1
      exact sumTo_eq k (fun l _ => by rw [sumTo_mul])
    rw [a, sumTo_sub]
    have c1 : sumTo (fun i => v i * (dd P k * sumTo (fun j => P (k + i) (k + j) * v j) m)) m = cenF P k m v * dd P k := by
      unfold cenF
      rw [Int.mul_comm, ← sumTo_mul]
      exact sumTo_eq m (fun i _ => by grind)
    have c2 : sumTo (fun i => v i * sumTo (fun l => nnF P k i l * sumTo (fun j => P (k + j) l * v j) m) k) m = sumTo (fun l => sumTo (fun i => v i * nnF P k i l) m * sumTo (fun j => P (k + j) l * v j) m) k := by
      have d1 : sumTo (fun i => v i * sumTo (fun l => nnF P k i l * sumTo (fun j => P (k + j) l * v j) m) k) m = sumTo (fun i => sumTo (fun l => v i * (nnF P k i l * sumTo (fun j => P (k + j) l * v j) m)) k) m :=
        sumTo_eq m (fun i _ => by rw [← sumTo_mul])
      rw [d1, sumTo_swap]
      refine sumTo_eq k (fun l _ => ?_)
      rw [Int.mul_comm, ← sumTo_mul]
      exact sumTo_eq m (fun i _ => by grind)
    rw [c1, c2]
  rw [e1]
  unfold topF
  congr 1
  refine sumTo_eq k (fun l hl => ?_)
  rw [num_lin hk hs hd l hl]
  have e3 : rhsF P k m v l = -sumTo (fun j => P (k + j) l * v j) m := by
    unfold rhsF
    congr 1
    exact sumTo_eq m (fun j hj => by rw [hs l (k + j) (by omega) (by omega)])
  rw [e3, Int.neg_mul_neg, Int.mul_comm]
/-- Where the matrix bends nowhere down, neither does what is left of it. -/
theorem top_nonneg (hk : k ≤ 5) (hs : Sym P (k + m)) (hd : 0 < dd P k) (hp : ∀ z : Nat → Int, 0 ≤ qd (k + m) P z) : 0 ≤ topF P k m v := by
  have hz := hp (fun j => if j < k then xx P k (rhsF P k m v) j else dd P k * v (j - k))
  have e : qd (k + m) P (fun j => if j < k then xx P k (rhsF P k m v) j else dd P k * v (j - k)) = dd P k * topF P k m v := by
    generalize hX : xx P k (rhsF P k m v) = X
    have hin : ∀ i, sumTo (fun j => P i j * (if j < k then X j else dd P k * v (j - k))) (k + m) = sumTo (fun j => P i j * X j) k + dd P k * sumTo (fun j => P i (k + j) * v j) m := by
      intro i
      rw [sumTo_split]
      congr 1
      · exact sumTo_eq k (fun j hj => by rw [if_pos hj])
      · rw [← sumTo_mul]
        exact sumTo_eq m (fun j _ => by rw [if_neg (by omega), Nat.add_sub_cancel_left]; grind)
    unfold qd
    rw [sumTo_split]
    have a1 : sumTo (fun i => (if i < k then X i else dd P k * v (i - k)) * sumTo (fun j => P i j * (if j < k then X j else dd P k * v (j - k))) (k + m)) k = 0 := by
      refine sumTo_nil k (fun i hi => ?_)
      rw [hin i, ← hX, sol P _ k hk i hi]
      have : dd P k * rhsF P k m v i + dd P k * sumTo (fun j => P i (k + j) * v j) m = 0 := by unfold rhsF; grind
      rw [this, Int.mul_zero]
    rw [a1, Int.zero_add]
    have a2 : sumTo (fun i => (if k + i < k then X (k + i) else dd P k * v (k + i - k)) * sumTo (fun j => P (k + i) j * (if j < k then X j else dd P k * v (j - k))) (k + m)) m = dd P k * sumTo (fun i => v i * sumTo (fun j => P (k + i) j * X j) k + dd P k * (v i * sumTo (fun j => P (k + i) (k + j) * v j) m)) m := by
      rw [← sumTo_mul]
      refine sumTo_eq m (fun i _ => ?_)
      rw [hin, if_neg (by omega), Nat.add_sub_cancel_left]
      grind
    rw [a2, sumTo_add, sumTo_mul]
    congr 1
    unfold topF cenF
    rw [hX]
    have a3 : sumTo (fun i => v i * sumTo (fun j => P (k + i) j * X j) k) m = -sumTo (fun l => rhsF P k m v l * X l) k := by
      have b1 : sumTo (fun i => v i * sumTo (fun j => P (k + i) j * X j) k) m = sumTo (fun i => sumTo (fun j => v i * (P (k + i) j * X j)) k) m := sumTo_eq m (fun i _ => by rw [← sumTo_mul])
      rw [b1, sumTo_swap, ← sumTo_neg]
      refine sumTo_eq k (fun l hl => ?_)
      unfold rhsF
      rw [Int.neg_mul, Int.neg_neg, Int.mul_comm, ← sumTo_mul]
      exact sumTo_eq m (fun i hi => by rw [hs (k + i) l (by omega) (by omega)]; grind)
    rw [a3]
    generalize sumTo (fun l => rhsF P k m v l * X l) k = t1
    generalize sumTo (fun i => v i * sumTo (fun j => P (k + i) (k + j) * v j) m) m = t2
    grind
  rw [e] at hz
  apply Classical.byContradiction
  intro hn
  have : dd P k * topF P k m v < 0 := Int.mul_neg_of_pos_of_neg hd (by omega)
  omega
end
/-- The matrix that is rounded down. -/
def rndF (F : Nat → Nat → Int) (E : Int) (m i j : Nat) : Int := if j = i then Int.fdiv (F i j * 1024) E - m else Int.fdiv (F i j * 1024) E
theorem abs_mul_le (a b : Int) : 2 * (a * b) ≤ a * a + b * b ∧ -(a * a + b * b) ≤ 2 * (a * b) := by
  have h1 : 0 ≤ (a - b) * (a - b) := by
    rcases Int.le_total 0 (a - b) with h | h
    · exact Int.mul_nonneg h h
    · exact Int.mul_nonneg_of_nonpos_of_nonpos h h
  have h2 : 0 ≤ (a + b) * (a + b) := by
    rcases Int.le_total 0 (a + b) with h | h
    · exact Int.mul_nonneg h h
    · exact Int.mul_nonneg_of_nonpos_of_nonpos h h
  constructor <;> grind
theorem round_one {F E a b : Int} (hE : 0 < E) : 2 * (E * (a * (Int.fdiv (F * 1024) E * b))) ≤ 2 * (1024 * (a * (F * b))) + E * (a * a + b * b) := by
  have hd := Int.mul_fdiv_add_fmod (F * 1024) E
  have h0 := Int.fmod_nonneg_of_pos (F * 1024) hE
  have h1 := Int.fmod_lt_of_pos (F * 1024) hE
  generalize Int.fdiv (F * 1024) E = q at *
  generalize Int.fmod (F * 1024) E = r at *
  obtain ⟨ab1, ab2⟩ := abs_mul_le a b
  -- 2 E a q b = 2 * 1024 a F b - 2 r a b, and - 2 r a b <= r (a a + b b) <= E (a a + b b)
  have k1 : 2 * (E * (a * (q * b))) = 2 * (1024 * (a * (F * b))) - r * (2 * (a * b)) := by grind
  have hsq : 0 ≤ a * a + b * b := by
    have ha : 0 ≤ a * a := by
      rcases Int.le_total 0 a with h | h
      · exact Int.mul_nonneg h h
      · exact Int.mul_nonneg_of_nonpos_of_nonpos h h
    have hb : 0 ≤ b * b := by
      rcases Int.le_total 0 b with h | h
      · exact Int.mul_nonneg h h
      · exact Int.mul_nonneg_of_nonpos_of_nonpos h h
    omega
  have k2 : -(r * (a * a + b * b)) ≤ r * (2 * (a * b)) := by
    have := Int.mul_le_mul_of_nonneg_left ab2 h0
    rw [Int.mul_neg] at this
    exact this
  have k3 : r * (a * a + b * b) ≤ E * (a * a + b * b) := Int.mul_le_mul_of_nonneg_right (Int.le_of_lt h1) hsq
  omega
theorem sq_nonneg (a : Int) : 0 ≤ a * a := by
  rcases Int.le_total 0 a with h | h
  · exact Int.mul_nonneg h h
  · exact Int.mul_nonneg_of_nonpos_of_nonpos h h
/-- What is rounded down bends no more. -/
theorem round_le (F : Nat → Nat → Int) (E : Int) (hE : 0 < E) (m : Nat) (v : Nat → Int) : qd m (rndF F E m) v * E ≤ 1024 * qd m F v := by
  -- twice both sides
  have hq : qd m (rndF F E m) v = sumTo (fun i => sumTo (fun j => v i * (Int.fdiv (F i j * 1024) E * v j)) m) m - m * sumTo (fun i => v i * v i) m := by
    unfold qd
    have a : sumTo (fun i => v i * sumTo (fun j => rndF F E m i j * v j) m) m = sumTo (fun i => sumTo (fun j => v i * (Int.fdiv (F i j * 1024) E * v j)) m - m * (v i * v i)) m := by
      refine sumTo_eq m (fun i hi => ?_)
      have b : sumTo (fun j => rndF F E m i j * v j) m = sumTo (fun j => Int.fdiv (F i j * 1024) E * v j - (if j = i then m * v j else 0)) m := by
        refine sumTo_eq m (fun j _ => ?_)
        unfold rndF
        split
        · grind
        · omega
      rw [b, sumTo_sub, sumTo_one (f := fun j => if j = i then m * v j else 0) m hi (fun j hj hne => if_neg hne), Int.mul_sub, ← sumTo_mul]
      simp only [if_true]
      congr 1
      grind
    rw [a, sumTo_sub, sumTo_mul]
  have hf : qd m F v = sumTo (fun i => sumTo (fun j => v i * (F i j * v j)) m) m := by
    unfold qd
    exact sumTo_eq m (fun i _ => by rw [← sumTo_mul])
  have hs : sumTo (fun i => sumTo (fun j => 2 * (E * (v i * (Int.fdiv (F i j * 1024) E * v j)))) m) m ≤ sumTo (fun i => sumTo (fun j => 2 * (1024 * (v i * (F i j * v j))) + E * (v i * v i + v j * v j)) m) m :=
    sumTo_le m (fun i _ => sumTo_le m (fun j _ => round_one hE))
  have l1 : sumTo (fun i => sumTo (fun j => 2 * (E * (v i * (Int.fdiv (F i j * 1024) E * v j)))) m) m = 2 * (E * sumTo (fun i => sumTo (fun j => v i * (Int.fdiv (F i j * 1024) E * v j)) m) m) := by
    rw [← sumTo_mul, ← sumTo_mul]
    exact sumTo_eq m (fun i _ => by rw [← sumTo_mul, ← sumTo_mul])
  have l2 : sumTo (fun i => sumTo (fun j => 2 * (1024 * (v i * (F i j * v j))) + E * (v i * v i + v j * v j)) m) m = 2 * (1024 * sumTo (fun i => sumTo (fun j => v i * (F i j * v j)) m) m) + E * (2 * (m * sumTo (fun i => v i * v i) m)) := by
    have c : sumTo (fun i => sumTo (fun j => 2 * (1024 * (v i * (F i j * v j))) + E * (v i * v i + v j * v j)) m) m = sumTo (fun i => 2 * (1024 * sumTo (fun j => v i * (F i j * v j)) m) + E * (m * (v i * v i) + sumTo (fun j => v j * v j) m)) m := by
      refine sumTo_eq m (fun i _ => ?_)
      rw [sumTo_add, ← sumTo_mul, ← sumTo_mul]
      congr 1
      rw [sumTo_mul, sumTo_add]
      congr 2
      have : ∀ n : Nat, sumTo (fun _ => v i * v i) n = n * (v i * v i) := by
        intro n
        induction n with
        | zero => show (0 : Int) = 0 * _; omega
        | succ n ih =>
          show sumTo (fun _ => v i * v i) n + v i * v i = ((n + 1 : Nat) : Int) * (v i * v i)
          rw [ih]
          grind
      exact this m
    rw [c, sumTo_add, sumTo_mul, sumTo_mul, sumTo_mul, sumTo_add, sumTo_mul]
    have : ∀ (n : Nat) (c : Int), sumTo (fun _ => c) n = n * c := by
      intro n c
      induction n with
      | zero => show (0 : Int) = 0 * _; omega
      | succ n ih =>
        show sumTo (fun _ => c) n + c = ((n + 1 : Nat) : Int) * c
        rw [ih]
        grind
    rw [this m]
    grind
  rw [l1, l2] at hs
  rw [hq, hf]
  generalize sumTo (fun i => sumTo (fun j => v i * (Int.fdiv (F i j * 1024) E * v j)) m) m = s1 at *
  generalize sumTo (fun i => sumTo (fun j => v i * (F i j * v j)) m) m = s2 at *
  generalize sumTo (fun i => v i * v i) m = s3 at *
  have e : (s1 - m * s3) * E = E * s1 - E * (m * s3) := by grind
  rw [e]
  have e2 : E * (2 * (m * s3)) = 2 * (E * (m * s3)) := by grind
  rw [e2] at hs
  omega
end Go.Proofs.YtmidifgnpjlgcaaGreat
