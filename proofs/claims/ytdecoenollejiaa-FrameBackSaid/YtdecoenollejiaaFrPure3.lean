/- Sizes of what is told, in plain Lean; bytes that come piece by piece. -/
import Derived.Test.YtdecoenollejiaaFrPure2
set_option linter.unusedVariables false
set_option linter.unusedSimpArgs false
namespace Go.Proofs.Ytdecoenollejiaa.FrMath
open CrcMath

theorem run_le : ∀ (n : Nat) (l : List UInt8), l.length ≤ n → (run l).told.length + (run l).rest.length + (run l).bad ≤ l.length
  | n, l, hn => by
    cases hs : stepL l with
    | stop => rw [run_stop hs]; simp
    | skip =>
      have hp := go_on_pos (l := l) (by rw [hs]; intro h; cases h)
      rw [run_skip hs]
      cases n with
      | zero => omega
      | succ n =>
        have := run_le n (l.drop 1) (by simp; omega)
        rw [List.length_drop] at this
        omega
    | bad =>
      have hp := bad_two hs
      rw [run_bad hs]
      cases n with
      | zero => omega
      | succ n =>
        have := run_le n (l.drop 2) (by simp; omega)
        rw [List.length_drop] at this
        simp only
        omega
    | told =>
      have hp := told_end hs
      rw [run_told hs]
      cases n with
      | zero => omega
      | succ n =>
        have := run_le n (l.drop (6 + cnt l)) (by simp; omega)
        rw [List.length_drop] at this
        simp only [List.length_cons]
        omega

theorem run_size (l : List UInt8) : (run l).told.length + (run l).rest.length + (run l).bad ≤ l.length := run_le l.length l (Nat.le_refl _)

/-- A piece more. -/
theorem run_piece (a b : List UInt8) : run (a ++ b) = ⟨(run a).told ++ (run ((run a).rest ++ b)).told, (run ((run a).rest ++ b)).rest, (run a).bad + (run ((run a).rest ++ b)).bad⟩ := run_append a.length a b (Nat.le_refl _)

end Go.Proofs.Ytdecoenollejiaa.FrMath
