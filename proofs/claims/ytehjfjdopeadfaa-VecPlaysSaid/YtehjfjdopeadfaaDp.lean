/- Sums of digits: the walk of plus. -/
import Derived.Test.YtehjfjdopeadfaaDl
set_option linter.unusedVariables false
set_option linter.unusedSimpArgs false
namespace Go.Proofs.Ytehjfjdopeadfaa
open Go.RowKit

/-- The first i digits of the sum. -/
def Plused (a b : List Int) (i : Nat) (u : Int) (out : List Int) : Prop := out.length = i ∧ digits out ∧ (0 ≤ u ∧ u ≤ 1) ∧ val out + p10 i * u = val (a.take i) + val (b.take i) ∧ ((i ≤ a.length ∨ i ≤ b.length) ∨ (u = 0 ∧ (i ≤ a.length + 1 ∨ i ≤ b.length + 1)))

theorem getD_out {b : List Int} {i : Nat} (h : ¬ i < b.length) : b.getD i 0 = 0 := by rw [List.getD_eq_getElem?_getD, List.getElem?_eq_none (by omega)]; rfl

theorem Plused.step {a b : List Int} {i : Nat} {u : Int} {out : List Int} (h : Plused a b i u out) (s : Int) (e : s = u + a.getD i 0 + b.getD i 0) (d1 : digits a) (d2 : digits b) (hc : i < a.length ∨ i < b.length ∨ 0 < u) : Plused a b (i + 1) (s / 10) (out ++ [s % 10]) := by
  obtain ⟨h1, h2, h3, h4, h5⟩ := h
  have g1 := getD_mem d1 i
  have g2 := getD_mem d2 i
  refine ⟨by simp [h1], fun x hx => ?_, by omega, ?_, ?_⟩
  · rcases List.mem_append.1 hx with hx | hx
    · exact h2 x hx
    · rw [List.mem_singleton] at hx; omega
  · rw [val_snoc, h1, val_take_succ', val_take_succ']
    show _ + 10 * p10 i * (s / 10) = _
    have e2 : s = s % 10 + 10 * (s / 10) := by omega
    generalize s % 10 = r at *
    generalize s / 10 = q at *
    generalize p10 i = t at *
    generalize a.getD i 0 = x at *
    generalize b.getD i 0 = y at *
    grind
  · by_cases k1 : i < a.length
    · exact .inl (.inl (by omega))
    · by_cases k2 : i < b.length
      · exact .inl (.inr (by omega))
      · have z1 := getD_out k1
        have z2 := getD_out k2
        exact .inr ⟨by omega, by omega⟩

theorem Plused.done {a b : List Int} {i : Nat} {u : Int} {out : List Int} (h : Plused a b i u out) (h1 : ¬ i < a.length) (h2 : ¬ i < b.length) (hu : ¬ 0 < u) : val out = val a + val b := by
  obtain ⟨_, _, h3, h4, _⟩ := h
  rw [List.take_of_length_le (by omega), List.take_of_length_le (by omega), show u = 0 by omega, Int.mul_zero] at h4
  omega

set_option maxHeartbeats 4000000 in
set_option maxRecDepth 100000 in
theorem plus_any (s t : Value) (a b : List Int) (w : World) (h1 : Dg w s a) (h2 : Dg w t b) (d1 : digits a) (d2 : digits b) (l1 : a.length ≤ 1000) (l2 : b.length ≤ 1000) :
    Calls Try.prog 99 #[s, t] w fun e w' => ∃ v out, e = .returned v ∧ Own w' w.heap.size v out ∧ digits out ∧ out.length ≤ max a.length b.length + 1 ∧ val out = val a + val b ∧ Below w.heap.size w w' := by
  obtain ⟨A, c, rfl, ha⟩ := h1.len
  obtain ⟨B, d, rfl, hb⟩ := h2.len
  clear h1 h2
  have HA := Lib.hid ha; have HB := Lib.hid hb
  have D1 := Lib.hid (fun k => getD_mem d1 k); have D2 := Lib.hid (fun k => getD_mem d2 k)
  have DD := Lib.hid (And.intro d1 d2)
  clear ha hb d1 d2
  have K := Lib.hid (Keep.start w)
  go_enter Try.func99, Try.ntmps99
  go_wp2_with fail
  go_loopg [5, 6, 7] (max a.length b.length + 1) (fun g ov uv iv wr => ∃ (i : Nat) (u : Int) (out : List Int), g + i = max a.length b.length + 1 ∧ iv = .int .i64 (i : Int) ∧ uv = .int .i64 u ∧ Own wr w.heap.size ov out ∧ Plused a b i u out ∧ Keep w [] wr)
  case atStart => exact ⟨0, 0, [], by omega, rfl, rfl, Own.nil _ _, ⟨rfl, digits_nil, by omega, by simp [val], by omega⟩, K.out⟩
  case round =>
    clear K
    obtain ⟨i, u, out, hg, rfl, rfl, hown, hl, k⟩ := hrel
    have K := Lib.hid k
    have HO := Lib.hid hown
    have HL := Lib.hid hl
    have hu := hl.2.2.1
    have ho := hl.1
    have hlast := hl.2.2.2.2
    obtain ⟨u1, u2⟩ := hu
    clear k hown hl
    by_cases hi : i < a.length
    · obtain ⟨x, rfl, hx, hxc⟩ := HA.out (by omega)
      have X := kept_cell K.out hx (hxc i hi)
      obtain ⟨p1, p2⟩ := D1.out i
      clear hx hxc hlast
      by_cases hj : i < b.length
      · obtain ⟨y, rfl, hy, hyc⟩ := HB.out (by omega)
        have Y := kept_cell K.out hy (hyc i hj)
        obtain ⟨q1, q2⟩ := D2.out i
        clear hy hyc
        have HST := Lib.hid (fun s e => HL.out.step (i := i) s e DD.out.1 DD.out.2 (.inl hi))
        generalize a.getD i 0 = p at *
        generalize b.getD i 0 = q at *
        go_wp2_with (at_builtin; refine app1 rfl (.tmp 46) (.tmp 49) rfl w.heap.size u5 out ((u + p + q) % 10) rfl HO.out rfl (by omega) K.out.B.size ?_; intro v' w' hown' hkeep')
        have Y2 := Lib.hid (And.intro hown' (hkeep' _ _ K.out (by simp) (Nat.le_refl _)))
        have L2 := Lib.hid (HST.out (u + p + q) (by omega))
        clear hown' hkeep' HO HL K HST
        go_roundg (gk - 1)
        case measure => omega
        case rel => exact ⟨i + 1, (u + p + q) / 10, out ++ [(u + p + q) % 10], by omega, congrArg (Value.int .i64) (by omega), rfl, Y2.out.1, L2.out, Y2.out.2⟩
      · have HZ := Lib.hid (getD_out hj)
        have HST := Lib.hid (fun s e => HL.out.step (i := i) s e DD.out.1 DD.out.2 (.inl hi))
        rw [HZ.out] at HST
        generalize a.getD i 0 = p at *
        go_wp2_with (at_builtin; refine app1 rfl (.tmp 46) (.tmp 49) rfl w.heap.size u5 out ((u + p) % 10) rfl HO.out rfl (by omega) K.out.B.size ?_; intro v' w' hown' hkeep')
        have Y2 := Lib.hid (And.intro hown' (hkeep' _ _ K.out (by simp) (Nat.le_refl _)))
        have L2 := Lib.hid (HST.out (u + p) (by omega))
        clear hown' hkeep' HO HL K HST
        go_roundg (gk - 1)
        case measure => omega
        case rel => exact ⟨i + 1, (u + p) / 10, out ++ [(u + p) % 10], by omega, congrArg (Value.int .i64) (by omega), rfl, Y2.out.1, L2.out, Y2.out.2⟩
    · have HZ1 := Lib.hid (getD_out hi)
      by_cases hj : i < b.length
      · obtain ⟨y, rfl, hy, hyc⟩ := HB.out (by omega)
        have Y := kept_cell K.out hy (hyc i hj)
        obtain ⟨q1, q2⟩ := D2.out i
        clear hy hyc hlast
        have HST := Lib.hid (fun s e => HL.out.step (i := i) s e DD.out.1 DD.out.2 (.inr (.inl hj)))
        rw [HZ1.out] at HST
        generalize b.getD i 0 = q at *
        go_wp2_with (at_builtin; refine app1 rfl (.tmp 46) (.tmp 49) rfl w.heap.size u5 out ((u + q) % 10) rfl HO.out rfl (by omega) K.out.B.size ?_; intro v' w' hown' hkeep')
        have Y2 := Lib.hid (And.intro hown' (hkeep' _ _ K.out (by simp) (Nat.le_refl _)))
        have L2 := Lib.hid (HST.out (u + q) (by omega))
        clear hown' hkeep' HO HL K HST
        go_roundg (gk - 1)
        case measure => omega
        case rel => exact ⟨i + 1, (u + q) / 10, out ++ [(u + q) % 10], by omega, congrArg (Value.int .i64) (by omega), rfl, Y2.out.1, L2.out, Y2.out.2⟩
      · have HZ2 := Lib.hid (getD_out hj)
        by_cases hu0 : 0 < u
        · have HST := Lib.hid (fun s e => HL.out.step (i := i) s e DD.out.1 DD.out.2 (.inr (.inr hu0)))
          rw [HZ1.out, HZ2.out] at HST
          go_wp2_with (at_builtin; refine app1 rfl (.tmp 46) (.tmp 49) rfl w.heap.size u5 out ((u) % 10) rfl HO.out rfl (by omega) K.out.B.size ?_; intro v' w' hown' hkeep')
          have Y2 := Lib.hid (And.intro hown' (hkeep' _ _ K.out (by simp) (Nat.le_refl _)))
          have L2 := Lib.hid (HST.out (u) (by omega))
          clear hown' hkeep' HO HL K HST
          go_roundg (gk - 1)
          case measure => omega
          case rel => exact ⟨i + 1, (u) / 10, out ++ [(u) % 10], by omega, congrArg (Value.int .i64) (by omega), rfl, Y2.out.1, L2.out, Y2.out.2⟩
        · have HD := Lib.hid (HL.out.done hi hj hu0)
          have hlen : out.length ≤ max a.length b.length + 1 := by omega
          go_wp2_with fail
          go_ret
          first | exact ⟨_, out, rfl, HO.out, HL.out.2.1, hlen, HD.out, K.out.B⟩ | exact ⟨_, rfl, out, HO.out, HL.out.2.1, hlen, HD.out, K.out.B⟩
end Go.Proofs.Ytehjfjdopeadfaa
