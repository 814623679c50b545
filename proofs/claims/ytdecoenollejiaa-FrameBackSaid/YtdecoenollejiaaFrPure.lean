/- Frames read off bytes, in plain Lean: what one step does, and what all steps leave. -/
import Derived.Test.YtdecoenollejiaaCrc
namespace Go.Proofs.Ytdecoenollejiaa.FrMath
open CrcMath

/-- What came in a frame. -/
structure Fr where
  kind : UInt8
  pay : List UInt8

inductive Step where
  | stop
  | skip
  | bad
  | told

/-- How many bytes a frame says that it carries. -/
def cnt (l : List UInt8) : Nat := (l.getD 3 0).toNat
/-- Is a text right? -/
def rightL (l : List UInt8) : Bool := decide (2 ≤ l.length) && (more 0xffff#16 l == 0#16)
/-- What is to be done by the first bytes. -/
def stepL (l : List UInt8) : Step :=
  if l = [] ∨ l = [165] then .stop
  else if l.take 2 ≠ [165, 90] then .skip
  else if l.length < 4 then .stop
  else if 64 < cnt l then .bad
  else if l.length < 6 + cnt l then .stop
  else if rightL ((l.drop 2).take (4 + cnt l)) = true then .told else .bad
def frameL (l : List UInt8) : Fr := ⟨l.getD 2 0, (l.drop 4).take (cnt l)⟩

/-- What all steps tell, what waits behind them, how many were bad. -/
structure Res where
  told : List Fr
  rest : List UInt8
  bad : Nat

/-- n steps at most. -/
def runF : Nat → List UInt8 → Res
  | 0, l => ⟨[], l, 0⟩
  | n + 1, l => match stepL l with
    | .stop => ⟨[], l, 0⟩
    | .skip => runF n (l.drop 1)
    | .bad => ⟨(runF n (l.drop 2)).told, (runF n (l.drop 2)).rest, (runF n (l.drop 2)).bad + 1⟩
    | .told => ⟨frameL l :: (runF n (l.drop (6 + cnt l))).told, (runF n (l.drop (6 + cnt l))).rest, (runF n (l.drop (6 + cnt l))).bad⟩
/-- All of them. -/
def run (l : List UInt8) : Res := runF l.length l

theorem stepL_nil : stepL [] = .stop := by simp [stepL]
theorem go_on_pos {l : List UInt8} (h : stepL l ≠ .stop) : 0 < l.length := by
  cases l with
  | nil => exact absurd stepL_nil h
  | cons a l => simp

theorem bad_two {l : List UInt8} (h : stepL l = .bad) : 2 ≤ l.length := by
  unfold stepL at h
  split at h
  · cases h
  split at h
  · cases h
  split at h
  · cases h
  · omega
theorem told_end {l : List UInt8} (h : stepL l = .told) : 6 + cnt l ≤ l.length := by
  unfold stepL at h
  split at h
  · cases h
  split at h
  · cases h
  split at h
  · cases h
  split at h
  · cases h
  split at h
  · cases h
  · omega

theorem runF_enough : ∀ (n : Nat) (l : List UInt8), l.length ≤ n → runF n l = runF l.length l
  | 0, l, h => by rw [show l.length = 0 by omega]
  | n + 1, l, h => by
    cases hs : stepL l with
    | stop =>
      have e1 : runF (n + 1) l = ⟨[], l, 0⟩ := by simp only [runF, hs]
      rw [e1]
      cases hl : l.length with
      | zero => rfl
      | succ m => simp only [runF, hs]
    | skip =>
      have hp := go_on_pos (l := l) (by rw [hs]; intro h; cases h)
      obtain ⟨m, hm⟩ : ∃ m, l.length = m + 1 := ⟨l.length - 1, by omega⟩
      rw [hm]
      simp only [runF, hs]
      rw [runF_enough n (l.drop 1) (by simp; omega)]
      rw [show (l.drop 1).length = m by simp; omega]
    | bad =>
      have hp := bad_two hs
      obtain ⟨m, hm⟩ : ∃ m, l.length = m + 1 := ⟨l.length - 1, by omega⟩
      rw [hm]
      simp only [runF, hs]
      rw [runF_enough n (l.drop 2) (by simp; omega), runF_enough m (l.drop 2) (by simp; omega)]
    | told =>
      have hp := told_end hs
      obtain ⟨m, hm⟩ : ∃ m, l.length = m + 1 := ⟨l.length - 1, by omega⟩
      rw [hm]
      simp only [runF, hs]
      rw [runF_enough n (l.drop (6 + cnt l)) (by simp; omega), runF_enough m (l.drop (6 + cnt l)) (by simp; omega)]
termination_by n => n
decreasing_by all_goals omega

theorem run_stop {l : List UInt8} (h : stepL l = .stop) : run l = ⟨[], l, 0⟩ := by
  unfold run
  cases hl : l.length with
  | zero => rfl
  | succ m => simp only [runF, h]
theorem run_skip {l : List UInt8} (h : stepL l = .skip) : run l = run (l.drop 1) := by
  have hp := go_on_pos (l := l) (by rw [h]; intro h; cases h)
  obtain ⟨m, hm⟩ : ∃ m, l.length = m + 1 := ⟨l.length - 1, by omega⟩
  unfold run
  rw [hm]
  simp only [runF, h]
  rw [show (l.drop 1).length = m by simp; omega]
theorem run_bad {l : List UInt8} (h : stepL l = .bad) : run l = ⟨(run (l.drop 2)).told, (run (l.drop 2)).rest, (run (l.drop 2)).bad + 1⟩ := by
  have hp := bad_two h
  obtain ⟨m, hm⟩ : ∃ m, l.length = m + 1 := ⟨l.length - 1, by omega⟩
  unfold run
  rw [hm]
  simp only [runF, h]
  rw [runF_enough m (l.drop 2) (by simp; omega)]
theorem run_told {l : List UInt8} (h : stepL l = .told) : run l = ⟨frameL l :: (run (l.drop (6 + cnt l))).told, (run (l.drop (6 + cnt l))).rest, (run (l.drop (6 + cnt l))).bad⟩ := by
  have hp := told_end h
  obtain ⟨m, hm⟩ : ∃ m, l.length = m + 1 := ⟨l.length - 1, by omega⟩
  unfold run
  rw [hm]
  simp only [runF, h]
  rw [runF_enough m (l.drop (6 + cnt l)) (by simp; omega)]

/-- What is decided of some bytes is decided of more. -/
theorem step_more {a : List UInt8} (b : List UInt8) (h : stepL a ≠ .stop) : stepL (a ++ b) = stepL a ∧ (stepL a ≠ .skip → cnt (a ++ b) = cnt a) := by
  have hpos := go_on_pos h
  unfold stepL at h ⊢
  have hne : ¬ (a = [] ∨ a = [165]) := by
    intro hc
    rw [if_pos hc] at h
    exact h rfl
  have ha0 : a ≠ [] := fun e => hne (.inl e)
  have hab : ¬ (a ++ b = [] ∨ a ++ b = [165]) := by
    rintro (e | e)
    · exact ha0 (List.append_eq_nil_iff.1 e).1
    · cases a with
      | nil => exact ha0 rfl
      | cons x a =>
        simp at e
        obtain ⟨rfl, rfl, rfl⟩ := e
        exact hne (.inr rfl)
  rw [if_neg hne, if_neg hab]
  rw [if_neg hne] at h
  by_cases h1 : a.length = 1
  · -- one byte, not 165
    obtain ⟨x, rfl⟩ : ∃ x, a = [x] := by
      cases a with
      | nil => simp at h1
      | cons x a => cases a with
        | nil => exact ⟨x, rfl⟩
        | cons y a => simp at h1
    have hx : x ≠ 165 := fun e => hne (.inr (by rw [e]))
    have e1 : List.take 2 [x] ≠ [165, 90] := by simp
    have e2 : List.take 2 ([x] ++ b) ≠ [165, 90] := by
      cases b with
      | nil => simp
      | cons y b =>
        simp
        intro e
        exact absurd e hx
    rw [if_pos e1, if_pos e2]
    exact ⟨rfl, fun hh => absurd rfl hh⟩
  have h2 : 2 ≤ a.length := by omega
  have t2 : (a ++ b).take 2 = a.take 2 := by rw [List.take_append_of_le_length h2]
  rw [t2]
  by_cases hp : a.take 2 ≠ [165, 90]
  · rw [if_pos hp, if_pos hp]
    exact ⟨rfl, fun hh => absurd rfl hh⟩
  rw [if_neg hp] at h
  rw [if_neg hp, if_neg hp]
  by_cases h4 : a.length < 4
  · rw [if_pos h4] at h
    exact absurd rfl h
  rw [if_neg h4] at h
  rw [if_neg h4, if_neg (show ¬ (a ++ b).length < 4 by simp; omega)]
  have hcnt : cnt (a ++ b) = cnt a := by
    unfold cnt
    rw [List.getD_eq_getElem?_getD, List.getD_eq_getElem?_getD, List.getElem?_append_left (by omega)]
  rw [hcnt]
  refine ⟨?_, fun _ => rfl⟩
  by_cases h64 : 64 < cnt a
  · rw [if_pos h64, if_pos h64]
  rw [if_neg h64] at h
  rw [if_neg h64, if_neg h64]
  by_cases hl : a.length < 6 + cnt a
  · rw [if_pos hl] at h
    exact absurd rfl h
  rw [if_neg hl, if_neg (show ¬ (a ++ b).length < 6 + cnt a by simp; omega)]
  have e : ((a ++ b).drop 2).take (4 + cnt a) = (a.drop 2).take (4 + cnt a) := by
    rw [List.drop_append_of_le_length h2, List.take_append_of_le_length (by simp; omega)]
  rw [e]

theorem frame_more {a : List UInt8} (b : List UInt8) (h : stepL a = .told) : frameL (a ++ b) = frameL a := by
  have hc := (step_more b (by rw [h]; intro h; cases h)).2 (by rw [h]; intro h; cases h)
  have hl := told_end h
  unfold frameL
  rw [hc]
  congr 1
  · rw [List.getD_eq_getElem?_getD, List.getD_eq_getElem?_getD, List.getElem?_append_left (by omega)]
  · rw [List.drop_append_of_le_length (by omega), List.take_append_of_le_length (by simp; omega)]

/-- HOW BYTES ARE CUT DOES NOT MATTER. -/
theorem run_append : ∀ (n : Nat) (a b : List UInt8), a.length ≤ n → run (a ++ b) = ⟨(run a).told ++ (run ((run a).rest ++ b)).told, (run ((run a).rest ++ b)).rest, (run a).bad + (run ((run a).rest ++ b)).bad⟩
  | n, a, b, hn => by
    cases hs : stepL a with
    | stop =>
      rw [run_stop hs]
      simp
    | skip =>
      have hp := go_on_pos (l := a) (by rw [hs]; intro h; cases h)
      have hm := (step_more b (by rw [hs]; intro h; cases h)).1
      rw [hs] at hm
      rw [run_skip hm, run_skip hs, List.drop_append_of_le_length (by omega)]
      cases n with
      | zero => omega
      | succ n => exact run_append n (a.drop 1) b (by simp; omega)
    | bad =>
      have hp := bad_two hs
      have hm := (step_more b (by rw [hs]; intro h; cases h)).1
      rw [hs] at hm
      rw [run_bad hm, run_bad hs, List.drop_append_of_le_length (by omega)]
      cases n with
      | zero => omega
      | succ n =>
        rw [run_append n (a.drop 2) b (by simp; omega)]
        simp only [Res.mk.injEq, true_and]
        omega
    | told =>
      have hp := told_end hs
      have hm := step_more b (by rw [hs]; intro h; cases h)
      have hc := hm.2 (by rw [hs]; intro h; cases h)
      have hm := hm.1
      rw [hs] at hm
      rw [run_told hm, run_told hs, hc, frame_more b hs, List.drop_append_of_le_length (by omega)]
      cases n with
      | zero => omega
      | succ n =>
        rw [run_append n (a.drop (6 + cnt a)) b (by simp; omega)]
        simp

end Go.Proofs.Ytdecoenollejiaa.FrMath
