/- gimballaw11.same: two slices that read as one list of frames are the same; how rows of frames read. -/
import Derived.Test.YtdecoenollejiaaFrFeed
import Derived.Deep.QuietTactic
import Derived.BigQuiet
set_option linter.unusedVariables false
set_option linter.unusedSimpArgs false
namespace Go.Proofs.Ytdecoenollejiaa
open Go.RowKit CrcMath FrMath

/-- A slice that reads as a list of frames. -/
def FrRow (w : World) (v : Value) (fs : List Fr) : Prop :=
  ∃ A c, v = .slice A fs.length c ∧ fs.length ≤ 70368744177664 ∧ (0 < fs.length → ∃ b off, A = some ⟨b, off, none⟩ ∧ b < w.heap.size ∧
    ∀ j, j < fs.length → w.cell? ⟨b, off + j * 2, none⟩ = some (.int .u8 (((fs.getD j ⟨0, []⟩).kind.toNat : Nat) : Int)) ∧ w.cell? ⟨b, off + j * 2 + 1, none⟩ = some (.string ⟨(fs.getD j ⟨0, []⟩).pay.toArray⟩))

set_option maxHeartbeats 1000000 in
theorem same_any (v u : Value) (fs : List Fr) (w : World) (hv : FrRow w v fs) (hu : FrRow w u fs) :
    Calls Try.prog 32 #[v, u] w fun e w' => e = .returned (.bool true) ∧ ∃ n, w' = w.drewN n := by
  obtain ⟨A, c, rfl, hl, hA⟩ := hv
  obtain ⟨B, d, rfl, _, hB⟩ := hu
  generalize hn : fs.length = n at *
  have HA := Lib.hid hA; have HB := Lib.hid hB; have HN := Lib.hid hn
  clear hA hB hn
  go_enter Try.func32, Try.ntmps32
  go_wp2_with fail
  go_loopg [5] n (fun g i wr => ∃ k : Nat, k + g = n ∧ i = .int .i64 k ∧ ∃ m, wr = w.drewN m)
  case atStart => exact ⟨0, by omega, rfl, 0, rfl⟩
  case round =>
    obtain ⟨k, hk, rfl, m, rfl⟩ := hrel
    by_cases hlt : k < n
    · obtain ⟨b1, o1, rfl, hb1, h1⟩ := HA.out (by omega)
      obtain ⟨b2, o2, rfl, hb2, h2⟩ := HB.out (by omega)
      have hc1 := (h1 k hlt).1
      have hc2 := (h1 k hlt).2
      have hc3 := (h2 k hlt).1
      have hc4 := (h2 k hlt).2
      clear h1 h2
      have hlt' : (k : Int) < (n : Int) := by omega
      generalize (fs.getD k ⟨0, []⟩).kind = kd at *
      generalize (fs.getD k ⟨0, []⟩).pay = py at *
      go_wp2_with fail
      go_quiet (fail)
      go_wp2_with fail
      go_roundg (gk - 1)
      case measure => omega
      case rel => exact ⟨k + 1, by omega, by go_num, m + nq, rfl⟩
    · obtain rfl : k = n := by omega
      go_wp2_with fail
      go_ret
      exact ⟨rfl, m, rfl⟩

theorem drewN_below (w : World) (n : Nat) : Below w.heap.size w (w.drewN n) := by
  induction n generalizing w with
  | zero => exact Below.refl _ _
  | succ n ih =>
    rw [← World.drew_drewN]
    exact (ih w).drew

/-- A row of the call's own reads as its frames. -/
theorem own_frames {w : World} {base : Nat} {v : Value} {fs : List Fr} (h : w.ownsRow base 52 2 v fs.length (rowF fs)) (hl : fs.length ≤ 70368744177664) : FrRow w v fs := by
  rcases h.2 with ⟨rfl, h0⟩ | ⟨g, cap, cur, rfl, hb, hh, _⟩
  · rw [← h0]
    have e : fs = [] := List.length_eq_zero_iff.1 h0
    subst e
    exact ⟨none, 0, rfl, by simp, fun h => absurd h (by simp)⟩
  · refine ⟨some ⟨g, 0, none⟩, cap, rfl, hl, fun _ => ⟨g, 0, rfl, (Array.getElem?_eq_some_iff.1 hh).1, fun j hj => ?_⟩⟩
    have key : ∀ (fs : List Fr) (j : Nat), j < fs.length → (rowF fs)[j * 2]? = some (.int .u8 (((fs.getD j ⟨0, []⟩).kind.toNat : Nat) : Int)) ∧ (rowF fs)[j * 2 + 1]? = some (.string ⟨(fs.getD j ⟨0, []⟩).pay.toArray⟩) := by
      intro fs
      induction fs with
      | nil => intro j hj; simp at hj
      | cons f fs ih =>
        intro j hj
        have e : rowF (f :: fs) = [.int .u8 (f.kind.toNat : Int), .string ⟨f.pay.toArray⟩] ++ rowF fs := rfl
        rw [e]
        cases j with
        | zero => exact ⟨rfl, rfl⟩
        | succ j =>
          have := ih j (by simpa using hj)
          rw [List.getElem?_append_right (by simp; omega), List.getElem?_append_right (by simp; omega)]
          simp only [List.length_cons, List.length_nil]
          rw [show (j + 1) * 2 - (0 + 1 + 1) = j * 2 by omega, show (j + 1) * 2 + 1 - (0 + 1 + 1) = j * 2 + 1 by omega]
          exact this
    obtain ⟨k1, k2⟩ := key fs j hj
    rw [Nat.zero_add]
    rw [h.cellAt (j * 2) (by omega), h.cellAt (j * 2 + 1) (by omega)]
    exact ⟨k1, k2⟩

theorem FrRow.below {w w1 : World} {v : Value} {fs : List Fr} (h : FrRow w v fs) (hb : Below w.heap.size w w1) : FrRow w1 v fs := by
  obtain ⟨A, c, hv, hl, hA⟩ := h
  refine ⟨A, c, hv, hl, fun h0 => ?_⟩
  obtain ⟨b, off, hA, hlt, hc⟩ := hA h0
  refine ⟨b, off, hA, Nat.lt_of_lt_of_le hlt hb.size, fun j hj => ?_⟩
  rw [hb.cell (p := ⟨b, off + j * 2, none⟩) hlt, hb.cell (p := ⟨b, off + j * 2 + 1, none⟩) hlt]
  exact hc j hj

theorem own_below {w w1 : World} {base : Nat} {e : TypeId} {size n : Nat} {v : Value} {xs : List Value} (h : w.ownsRow base e size v n xs) (hb : Below w.heap.size w w1) : w1.ownsRow base e size v n xs :=
  h.kept (row := none) ⟨hb.os, hb.tape, hb.output, hb.size, fun i hi _ => hb.block i hi⟩ (by cases v.ownBlock <;> simp)
/-- A row stays where another block is written. -/
theorem own_kept {w w1 : World} {base : Nat} {e : TypeId} {size n : Nat} {v : Value} {xs : List Value} {g : Nat} (h : w.ownsRow base e size v n xs) (hg : w.grownBy w1 (some g)) (hne : v.ownBlock ≠ some g) : w1.ownsRow base e size v n xs :=
  h.kept hg (.inr hne)
end Go.Proofs.Ytdecoenollejiaa
