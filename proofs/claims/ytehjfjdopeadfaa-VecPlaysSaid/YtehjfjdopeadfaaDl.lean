/- Differences and sums of digits: the walks of less and plus. -/
import Derived.Test.YtehjfjdopeadfaaDi
set_option linter.unusedVariables false
set_option linter.unusedSimpArgs false
namespace Go.Proofs.Ytehjfjdopeadfaa
open Go.RowKit

theorem val_take_succ' (ds : List Int) (k : Nat) : val (ds.take (k + 1)) = val (ds.take k) + p10 k * ds.getD k 0 := by
  by_cases h : k < ds.length
  · exact val_take_succ h
  · rw [List.take_of_length_le (by omega), List.take_of_length_le (by omega), List.getD_eq_getElem?_getD, List.getElem?_eq_none (by omega)]
    simp

/-- The first i digits of the difference. -/
def Lessed (a b : List Int) (i : Nat) (u : Int) (out : List Int) : Prop := out.length = i ∧ digits out ∧ (0 ≤ u ∧ u ≤ 1) ∧ val out = val (a.take i) - val (b.take i) + p10 i * u

theorem Lessed.step {a b : List Int} {i : Nat} {u : Int} {out : List Int} (h : Lessed a b i u out) (d u' : Int) (hd : 0 ≤ d ∧ d ≤ 9) (hu : 0 ≤ u' ∧ u' ≤ 1) (e : d = a.getD i 0 - u - b.getD i 0 + 10 * u') : Lessed a b (i + 1) u' (out ++ [d]) := by
  obtain ⟨h1, h2, h3, h4⟩ := h
  refine ⟨by simp [h1], fun x hx => ?_, hu, ?_⟩
  · rcases List.mem_append.1 hx with hx | hx
    · exact h2 x hx
    · rw [List.mem_singleton] at hx; omega
  · rw [val_snoc, h1, h4, val_take_succ', val_take_succ', e]
    show _ = _ + 10 * p10 i * u'
    generalize p10 i = t
    generalize a.getD i 0 = x
    generalize b.getD i 0 = y
    grind

theorem Lessed.done {a b : List Int} {u : Int} {out : List Int} (h : Lessed a b a.length u out) (hb : b.length ≤ a.length) (hv : val b ≤ val a) : val out = val a - val b := by
  obtain ⟨h1, h2, h3, h4⟩ := h
  rw [List.take_length, List.take_of_length_le hb] at h4
  have := (val_bounds out h2).2
  rw [h1] at this
  have hp := p10_pos a.length
  by_cases e : u = 0
  · rw [e, Int.mul_zero] at h4; omega
  · rw [show u = 1 by omega, Int.mul_one] at h4; omega

set_option maxHeartbeats 4000000 in
set_option maxRecDepth 100000 in
theorem less_any (s t : Value) (a b : List Int) (w : World) (h1 : Dg w s a) (h2 : Dg w t b) (d1 : digits a) (d2 : digits b) (l1 : a.length ≤ 1000) (l2 : b.length ≤ a.length) (hv : val b ≤ val a) :
    Calls Try.prog 100 #[s, t] w fun e w' => ∃ v out, e = .returned v ∧ Own w' w.heap.size v out ∧ digits out ∧ out.length = a.length ∧ val out = val a - val b ∧ Below w.heap.size w w' := by
  obtain ⟨A, c, rfl, ha⟩ := h1.len
  obtain ⟨B, d, rfl, hb⟩ := h2.len
  clear h1 h2
  have HA := Lib.hid ha; have HB := Lib.hid hb
  have D1 := Lib.hid (fun k => getD_mem d1 k); have D2 := Lib.hid (fun k => getD_mem d2 k)
  have HV := Lib.hid hv
  clear ha hb d1 d2 hv
  have K := Lib.hid (Keep.start w)
  go_enter Try.func100, Try.ntmps100
  go_wp2_with fail
  go_loopg [5, 6, 7] a.length (fun g ov uv iv wr => ∃ (i : Nat) (u : Int) (out : List Int), g + i = a.length ∧ iv = .int .i64 (i : Int) ∧ uv = .int .i64 u ∧ Own wr w.heap.size ov out ∧ Lessed a b i u out ∧ Keep w [] wr)
  case atStart => exact ⟨0, 0, [], by omega, rfl, rfl, Own.nil _ _, ⟨rfl, digits_nil, by omega, by simp [val]⟩, K.out⟩
  case round =>
    clear K
    obtain ⟨i, u, out, hg, rfl, rfl, hown, hl, k⟩ := hrel
    have K := Lib.hid k
    have HO := Lib.hid hown
    have HL := Lib.hid hl
    have hu := hl.2.2.1
    have ho := hl.1
    obtain ⟨u1, u2⟩ := hu
    clear k hown hl
    by_cases hi : i < a.length
    · obtain ⟨x, rfl, hx, hxc⟩ := HA.out (by omega)
      have X := kept_cell K.out hx (hxc i hi)
      obtain ⟨p1, p2⟩ := D1.out i
      clear hx hxc
      have HP : Hid (a.getD i 0 = a.getD i 0) := rfl
      by_cases hj : i < b.length
      · obtain ⟨y, rfl, hy, hyc⟩ := HB.out (by omega)
        have Y := kept_cell K.out hy (hyc i hj)
        obtain ⟨q1, q2⟩ := D2.out i
        clear hy hyc
        have HST := Lib.hid (fun d u' hd hu e => HL.out.step (i := i) d u' hd hu e)
        generalize a.getD i 0 = p at *
        generalize b.getD i 0 = q at *
        by_cases hs : p - u - q < 0
        · go_wp2_with (at_builtin; refine app1 rfl (.tmp 35) (.tmp 37) rfl w.heap.size u5 out (p - u - q + 10) rfl HO.out rfl (by omega) K.out.B.size ?_; intro v' w' hown' hkeep')
          have Y2 := Lib.hid (And.intro hown' (hkeep' _ _ K.out (by simp) (Nat.le_refl _)))
          have L2 := Lib.hid (HST.out (p - u - q + 10) 1 (by omega) (by omega) (by omega))
          clear hown' hkeep' HO HL K HST
          go_roundg (gk - 1)
          case measure => omega
          case rel => exact ⟨i + 1, 1, out ++ [p - u - q + 10], by omega, congrArg (Value.int .i64) (by omega), rfl, Y2.out.1, L2.out, Y2.out.2⟩
        · go_wp2_with (at_builtin; refine app1 rfl (.tmp 35) (.tmp 37) rfl w.heap.size u5 out (p - u - q) rfl HO.out rfl (by omega) K.out.B.size ?_; intro v' w' hown' hkeep')
          have Y2 := Lib.hid (And.intro hown' (hkeep' _ _ K.out (by simp) (Nat.le_refl _)))
          have L2 := Lib.hid (HST.out (p - u - q) 0 (by omega) (by omega) (by omega))
          clear hown' hkeep' HO HL K HST
          go_roundg (gk - 1)
          case measure => omega
          case rel => exact ⟨i + 1, 0, out ++ [p - u - q], by omega, congrArg (Value.int .i64) (by omega), rfl, Y2.out.1, L2.out, Y2.out.2⟩
      · have HZ : Hid (b.getD i 0 = 0) := by show _ = _; rw [List.getD_eq_getElem?_getD, List.getElem?_eq_none (by omega)]; rfl
        have HST := Lib.hid (fun d u' hd hu e => HL.out.step (i := i) d u' hd hu e)
        rw [HZ.out] at HST
        generalize a.getD i 0 = p at *
        by_cases hs : p - u < 0
        · go_wp2_with (at_builtin; refine app1 rfl (.tmp 35) (.tmp 37) rfl w.heap.size u5 out (p - u + 10) rfl HO.out rfl (by omega) K.out.B.size ?_; intro v' w' hown' hkeep')
          have Y2 := Lib.hid (And.intro hown' (hkeep' _ _ K.out (by simp) (Nat.le_refl _)))
          have L2 := Lib.hid (HST.out (p - u + 10) 1 (by omega) (by omega) (by omega))
          clear hown' hkeep' HO HL K HST
          go_roundg (gk - 1)
          case measure => omega
          case rel => exact ⟨i + 1, 1, out ++ [p - u + 10], by omega, congrArg (Value.int .i64) (by omega), rfl, Y2.out.1, L2.out, Y2.out.2⟩
        · go_wp2_with (at_builtin; refine app1 rfl (.tmp 35) (.tmp 37) rfl w.heap.size u5 out (p - u) rfl HO.out rfl (by omega) K.out.B.size ?_; intro v' w' hown' hkeep')
          have Y2 := Lib.hid (And.intro hown' (hkeep' _ _ K.out (by simp) (Nat.le_refl _)))
          have L2 := Lib.hid (HST.out (p - u) 0 (by omega) (by omega) (by omega))
          clear hown' hkeep' HO HL K HST
          go_roundg (gk - 1)
          case measure => omega
          case rel => exact ⟨i + 1, 0, out ++ [p - u], by omega, congrArg (Value.int .i64) (by omega), rfl, Y2.out.1, L2.out, Y2.out.2⟩
    · have hia : i = a.length := by omega
      rw [hia] at HL
      have HD := Lib.hid (HL.out.done l2 HV.out)
      have HO1 := HL.out.1
      go_wp2_with fail
      go_ret
      exact ⟨_, out, rfl, HO.out, HL.out.2.1, HO1, HD.out, K.out.B⟩
end Go.Proofs.Ytehjfjdopeadfaa
