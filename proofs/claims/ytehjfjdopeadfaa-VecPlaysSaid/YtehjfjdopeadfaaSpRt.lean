/- The square root of a whole number, bit by bit, in plain Lean; the walks of fx.Clamp, fx.Sqrt and Span.Sqrt. -/
import Derived.Test.YtehjfjdopeadfaaSpSq
set_option linter.unusedVariables false
set_option linter.unusedSimpArgs false
namespace Go.Proofs.Ytehjfjdopeadfaa
open Go.RowKit SpMath

namespace SpMath
def pw : Nat → Int
  | 0 => 1
  | k + 1 => 2 * pw k
def bitOf : Nat → Int
  | 0 => 0
  | k + 1 => pw k
def rtGo : Nat → Int → Int → Int
  | 0, _, n => n
  | k + 1, A, n => if (n + pw k) * (n + pw k) ≤ A then rtGo k A (n + pw k) else rtGo k A n
def rt (A : Int) : Int := rtGo 27 A 0
def sqrt (x : Sp) : Sp := if (right x).all = true ∨ (right x).hi < 0 then whole else
  made (rt (max (right x).lo 0 * 1048576)) (if rt ((right x).hi * 1048576) * rt ((right x).hi * 1048576) < (right x).hi * 1048576 then rt ((right x).hi * 1048576) + 1 else rt ((right x).hi * 1048576))

theorem pw_pos (k : Nat) : 0 < pw k := by
  induction k with
  | zero => decide
  | succ k ih => show 0 < 2 * pw k; omega
theorem pw_27 : pw 27 = 134217728 := by decide

theorem rtGo_spec (k : Nat) : ∀ (A n : Int), 0 ≤ n → n * n ≤ A → A < (n + pw k) * (n + pw k) → 0 ≤ rtGo k A n ∧ rtGo k A n * rtGo k A n ≤ A ∧ A < (rtGo k A n + 1) * (rtGo k A n + 1) ∧ rtGo k A n < n + pw k := by
  induction k with
  | zero => intro A n h0 h1 h2; exact ⟨h0, h1, h2, by show n < n + 1; omega⟩
  | succ k ih =>
    intro A n h0 h1 h2
    have hp := pw_pos k
    have e : n + pw (k + 1) = n + pw k + pw k := by show n + 2 * pw k = _; omega
    rw [e] at h2 ⊢
    unfold rtGo
    split
    next h =>
      have := ih A (n + pw k) (by omega) h h2
      exact this
    next h =>
      have := ih A n h0 h1 (by omega)
      exact ⟨this.1, this.2.1, this.2.2.1, by omega⟩

theorem rt_spec {A : Int} (h0 : 0 ≤ A) (h1 : A < 18014398509481984) : 0 ≤ rt A ∧ rt A * rt A ≤ A ∧ A < (rt A + 1) * (rt A + 1) ∧ rt A < 134217728 := by
  have := rtGo_spec 27 A 0 (by omega) (by omega) (by rw [pw_27]; omega)
  rw [pw_27, Int.zero_add] at this
  exact this
end SpMath

theorem ret_tup {a b : Int} {p q : Bool} {k : IntKind} (h : a = b) (h2 : p = q) : Ending.returned (.tuple #[.int k a, .bool p]) = .returned (.tuple #[.int k b, .bool q]) := by rw [h, h2]

theorem clamp_in (n : Int) (h1 : -2147483647 ≤ n) (h2 : n ≤ 2147483647) (w : World) : Calls Try.prog 97 #[.int .i64 n] w fun e w' => e = .returned (.tuple #[.int .i64 n, .bool false]) ∧ w = w' := by
  have m : max (-2147483647) (min n 2147483647) = n := by omega
  go_enter Try.func97, Try.ntmps97
  go_wp2_with fail
  go_ret2
  first | exact ⟨rfl, rfl⟩ | exact ⟨ret_tup rfl (by simp), rfl⟩

theorem shr_one (a : Int) : a >>> 1 = a / 2 := by rw [Int.shiftRight_eq_div_pow]; rfl
theorem sq_mono {a b : Int} (h0 : 0 ≤ a) (h : a ≤ b) : a * a ≤ b * b := Int.mul_le_mul h h h0 (by omega)

set_option maxHeartbeats 1000000 in
set_option maxRecDepth 100000 in
theorem fxsqrt_any (a : Int) (h1 : 0 ≤ a) (h2 : a ≤ 2147483647) (w : World) : Calls Try.prog 87 #[.int .i64 a] w fun e w' => e = .returned (.tuple #[.int .i64 (rt (a * 1048576)), .bool false, .int .i64 0]) ∧ w = w' := by
  have HC := Lib.hid (fun w => clamp_in a (by omega) h2 w)
  go_enter Try.func87, Try.ntmps87
  go_wp2_with fail
  refine (HC.out _).mono ?_; rintro e w2 ⟨rfl, rfl⟩
  clear HC
  go_wp2_with fail
  go_loopg [2, 5] 27 (fun g nv bv wr => ∃ n : Int, nv = .int .i64 n ∧ bv = .int .i64 (bitOf g) ∧ 0 ≤ n ∧ n + pw g ≤ 134217728 ∧ rtGo g (a * 1048576) n = rt (a * 1048576) ∧ wr = w)
  case atStart => exact ⟨0, rfl, rfl, by omega, by rw [pw_27]; omega, rfl, rfl⟩
  case round =>
    obtain ⟨n, rfl, rfl, n0, nb, HR, rfl⟩ := hrel
    replace HR := Lib.hid HR
    cases gk with
    | zero =>
      have hb : bitOf 0 = 0 := rfl
      go_wp2_with fail
      go_ret3
      exact ⟨by rw [← HR.out]; rfl, rfl⟩
    | succ k =>
      have hp := pw_pos k
      have nb2 : n + 2 * pw k ≤ 134217728 := nb
      have HB : Hid (bitOf k = pw k / 2) := by
        show _ = _
        cases k with
        | zero => rfl
        | succ k => show pw k = 2 * pw k / 2; omega
      have nb3 : n + pw k ≤ 134217728 := by omega
      have HG : Hid (rtGo (k + 1) (a * 1048576) n = if (n + pw k) * (n + pw k) ≤ a * 1048576 then rtGo k (a * 1048576) (n + pw k) else rtGo k (a * 1048576) n) := by show _ = _; rfl
      rw [show bitOf (k + 1) = pw k from rfl]
      rw [HG.out] at HR
      clear HG nb
      have q1 : (0 : Int) ≤ (n + pw k) * (n + pw k) := Int.mul_nonneg (by omega) (by omega)
      have q2 : (n + pw k) * (n + pw k) ≤ 18014398509481984 := by have := sq_mono (a := n + pw k) (b := 134217728) (by omega) (by omega); omega
      generalize hbit : pw k = bit at hp nb2 nb3 q1 q2 HR HB ⊢
      have HP := Lib.hid hbit
      clear hbit
      by_cases hc : (n + bit) * (n + bit) ≤ a * 1048576
      · rw [if_pos hc] at HR
        go_wp2_with fail
        go_roundg k
        case measure => omega
        case rel => exact ⟨n + bit, rfl, by rw [HB.out], by omega, by have := HP.out; omega, HR.out, rfl⟩
      · rw [if_neg hc] at HR
        go_wp2_with fail
        go_roundg k
        case measure => omega
        case rel => exact ⟨n, rfl, by rw [HB.out], by omega, by have := HP.out; omega, HR.out, rfl⟩
end Go.Proofs.Ytehjfjdopeadfaa
